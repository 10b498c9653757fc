/- Abstract walks: loops over functions. -/
import Derived.Test.YtkfmammkbmhfaaaXAbs7
import Derived.TacticsIn
import Derived.OrdersIn
import Derived.RangeFuncNested
import Derived.ScopeJumps
import Derived.Laws.Pointers
namespace Go.Proofs.Ytkfmammkbmhfaaa
set_option linter.unusedSimpArgs false
set_option linter.unusedVariables false
open Go Go.RowKit Go.Shelf

section
variable {P : Program} {n : Nat} {Q : Exit → Act → World → Prop} {a : Act} {w : World}
def noDefer (o : Oper) : Bool := match o.op with | .defer _ => false | _ => true
theorem noDefer_ne {o : Oper} (h : noDefer o = true) : ∀ c, o.op ≠ .defer c := fun c e => by simp [noDefer, e] at h
theorem operIn {o : Oper} (l : Nat) {next : Act → World → Prop} (hnd : noDefer o = true) (h : o.wp P a w next Q) : o.wpIn (Fence.wide.inRound l) n P a w next Q := by
  refine ⟨fun _ _ => trivial, ?_⟩
  rw [Fence.inRound_round, Oper.semAt_some l a.eval o (noDefer_ne hnd)]
  unfold Oper.wp at h
  revert h
  generalize (execOp a.eval o).run P w = r
  intro h
  cases r with
  | ok x w' =>
    cases x with
    | value v => exact h
    | skip => exact h
    | defer d => exact h
    | enter f args => exact ⟨fun hh => (by cases hh), CallsIn.inRound l (callsIn_wide.2 h)⟩
    | row row args => exact ⟨fun hh => (by cases hh), fun c cs _ => by
        obtain ⟨v, w'', q1, q2⟩ := h c cs
        exact ⟨v, w'', q1, (StepsIn.of_steps q2).mono fun m _ => by
          intro g hg
          exact fenced_wide P m g hg⟩⟩
    | _ => exact h.elim
  | halt x w' => cases x <;> exact h
theorem listIn {ops : Array Oper} (l : Nat) (hQ : ¬ LetsOut Q) : ∀ (os : List Oper) (a : Act) (w : World), os.all noDefer = true → wpList P ops Q os a w → wpListIn (Fence.wide.inRound l) n P ops Q os a w
  | [], _, _, _, h => h
  | o :: os, a, w, hnd, h => by
    simp only [List.all_cons, Bool.and_eq_true] at hnd
    simp only [wpList] at h
    simp only [wpListIn]
    split
    · rename_i hw
      rw [if_pos hw] at h
      rcases h with h | ⟨_, h⟩
      · exact Oper.wpIn_mono (fun a' w' h' => listIn l hQ os a' w' hnd.2 h') (operIn l hnd.1 h)
      · exact absurd h hQ
    · rename_i hw
      rw [if_neg hw] at h
      exact ⟨fun _ _ => trivial, listIn l hQ os _ _ hnd.2 h⟩
end

theorem LT.mono {P : Program} {N : Nat} {K0 : Know} {w0 : Bas} {ops : Array Oper} {l : List Oper} {S : St} {Q Q' : St → Prop} (h : LT P N K0 w0 ops l S Q) (hq : ∀ S', Q S' → Q' S') : LT P N K0 w0 ops l S Q' := fun K n a w hs =>
  wpList_mono_ (fun e a' w' ⟨h1, K', n', S', h2, h3⟩ => ⟨h1, K', n', S', hq _ h2, h3⟩) _ _ _ (h K n a w hs)
/-! ### Code in a round -/
def CTI (l : Nat) (P : Program) (N : Nat) (K0 : Know) (w0 : Bas) (c : Code) (S : St) (Q : Exit → St → Prop) : Prop :=
  ∀ n K nm a w, Sim N K0 w0 S K nm a w → c.wpIn (Fence.wide.inRound l) n P (fun e a' w' => ∃ K' n' S', Q e S' ∧ Sim N K0 w0 S' K' n' a' w') a w
section
variable {l : Nat} {P : Program} {N : Nat} {K0 : Know} {w0 : Bas} {S S' : St} {QE : Exit → St → Prop} {c c1 c2 : Code} {tm : List (Nat × AV)} {bs : List (Nat × List AV)} {ar : List (Nat × Arr)} {x : Operand}
theorem CTI.mono {QE' : Exit → St → Prop} (h : CTI l P N K0 w0 c S QE) (hq : ∀ e S, QE e S → QE' e S) : CTI l P N K0 w0 c S QE' :=
  fun n K nm a w hs => wpIn_mono (h n K nm a w hs) fun _ _ _ ⟨K', n', S', h1, h2⟩ => ⟨K', n', S', hq _ _ h1, h2⟩
theorem CTI.skip (h : QE .normal S) : CTI l P N K0 w0 .skip S QE := fun n K nm a w hs => wpIn_skip ⟨K, nm, S, h, hs⟩
theorem CTI.exit {id : Nat} (h : QE (.exit id) S) : CTI l P N K0 w0 (.exit id) S QE := fun n K nm a w hs => wpIn_exit ⟨K, nm, S, h, hs⟩
theorem CTI.ret (h : QE .ret S) : CTI l P N K0 w0 .ret S QE := fun n K nm a w hs => wpIn_ret ⟨K, nm, S, h, hs⟩
theorem CTI.cond {t : Bool} (hc : S.opv x = .val (.bool t)) (ht : t = true → CTI l P N K0 w0 c1 S QE) (hf : t = false → CTI l P N K0 w0 c2 S QE) : CTI l P N K0 w0 (.cond x c1 c2) S QE := by
  intro n K nm a w hs
  have h1 := hs.opv x
  rw [hc] at h1
  exact wpIn_cond_split h1 (fun e => ht e n K nm a w hs) (fun e => hf e n K nm a w hs)
theorem CTI.block {id : Nat} (h : CTI l P N K0 w0 c S (blockA id QE)) : CTI l P N K0 w0 (.block id c) S QE := by
  intro n K nm a w hs
  refine wpIn_block (wpIn_mono (h n K nm a w hs) ?_)
  rintro e a' w' ⟨K', n', S', h1, h2⟩
  cases e with
  | exit id' =>
    by_cases e : id' = id
    · subst e
      have : (Nat.beq id' id') = true := Nat.beq_refl id'
      simp only [blockA, this, cond_true] at h1
      simp only [Exit.inBlock, if_true]
      exact ⟨K', n', S', h1, h2⟩
    · have : Nat.beq id' id = false := by
        cases e' : Nat.beq id' id with
        | false => rfl
        | true => exact absurd (Nat.eq_of_beq_eq_true e') e
      simp only [blockA, this, cond_false] at h1
      simp only [Exit.inBlock, e, if_false]
      exact ⟨K', n', S', h1, h2⟩
  | normal => exact ⟨K', n', S', h1, h2⟩
  | goto id => exact ⟨K', n', S', h1, h2⟩
  | ret => exact ⟨K', n', S', h1, h2⟩
  | panic ch => exact ⟨K', n', S', h1, h2⟩
  | outgrown => exact ⟨K', n', S', h1, h2⟩
theorem CTI.region {id : Nat} {os : List Oper} (hnd : os.all noDefer = true) (h : LT P N K0 w0 os.toArray os S (fun S' => QE .normal S')) : CTI l P N K0 w0 (.region id os.toArray false) S QE := by
  intro n K nm a w hs
  refine wpIn_mono (wpIn_region_lit (listIn l (by rintro ⟨a2, w2, e, _⟩; cases e) os a w hnd (h K nm a w hs))) ?_
  rintro e a' w' ⟨rfl, K', n', S', h1, h2⟩
  exact ⟨K', n', S', h1, h2⟩
end
end Go.Proofs.Ytkfmammkbmhfaaa

/- Abstract walks: the loop over a function, as a whole. -/
namespace Go.Proofs.Ytkfmammkbmhfaaa
set_option linter.unusedSimpArgs false
set_option linter.unusedVariables false
open Go Go.RowKit Go.Shelf

structure Book (w W : World) (r : Loop) : Prop where
  rec_ : W.heap[w.heap.size + 1]? = some (.loop r)
  off : W.heap[w.heap.size]? = some (.deferred (some []))
theorem Book.keep {w W W' : World} {r : Loop} (h : Book w W r) (hk : KeepsFrom w.heap.size W W') : Book w W' r := ⟨hk.same _ _ (Nat.le_succ _) h.rec_ rfl, hk.same _ _ (Nat.le_refl _) h.off rfl⟩
theorem Book.set {w W : World} {r r' : Loop} (h : Book w W r) : Book w (W.putObj (w.heap.size + 1) (.loop r')) r' :=
  ⟨World.putObj_heap_same (Array.getElem?_eq_some_iff.1 h.rec_).1, (World.putObj_heap_other (by omega)).trans h.off⟩
section
variable {α : Type} {P : Program} {Q : Exit → Act → World → Prop} {a : Act} {w : World}
theorem range_joint {g : Operand} {ps : Array Tmp} {assign body : Code} {gf : Nat} {lb : Array Value} (hg : a.eval g = .func (.func gf) #[] lb) (eg : ∀ args w, (callFunc gf args).run P w = .ok (.enter gf args) w)
    {encs : α → Array Value} {Kp : World → World → Prop} {Sd Sp : List α → Prop} {M : Nat} (hseq : SeqStopsK Fence.wide 2 P gf lb encs Kp Sd Sp M w)
    (hKt : ∀ {A B C : World}, Kp A B → Kp B C → Kp A C) (hKb : ∀ (W : World) (l : Nat) (o o' : Obj), W.heap[l]? = some o → o.isCells = false → Kp W (W.putObj l o')) (hps : ∀ x, (encs x).size = ps.size)
    (I : List α → World → Prop) (Ix : Code → List α → World → Prop) (J : List α → α → Act → World → Prop) (hI : OwnFrom w.heap.size I) (hIx : ∀ c, OwnFrom w.heap.size (Ix c)) (hJ : ∀ pre x a', OwnFrom w.heap.size (fun (_ : Unit) W => J pre x a' W)) (h0 : I [] w)
    (hassign : ∀ (l : Nat) (pre : List α) (x : α) (W : World), I pre W → assign.wpIn (Fence.wide.inRound l) 1 P (fun e a' W' => e = .normal ∧ KeepsFrom w.heap.size W W' ∧ Kp W W' ∧ J pre x a' W') { tmps := (ps.zip (encs x)).foldl (fun t (p, v) => t.setIfInBounds p v) a.tmps, defers := [] } W)
    (hbody : ∀ (l : Nat) (pre : List α) (x : α) (a' : Act) (W : World), J pre x a' W → pre.length < M → body.wpIn (Fence.wide.inRound l) 1 P (ownPostG w.heap.size Kp I Ix (pre ++ [x]) W) a' W)
    (hdone : ∀ (xs : List α) (W : World), Sd xs → I xs W → W.heap[w.heap.size]? = some (.deferred (some [])) → Q .normal { a with defers := mark w.heap.size :: a.defers } W)
    (hstop : ∀ (c : Code) (pre : List α) (W : World), Sp pre → Ix c pre W → W.heap[w.heap.size]? = some (.deferred (some [])) → c.wpIn Fence.wide 3 P Q { a with defers := mark w.heap.size :: a.defers } W) :
    (Code.rangeFunc g ps assign body).wpIn Fence.wide 3 P Q a w := by
  refine wpIn_rangeFunc fun fn hfn => ?_
  -- the record as it is laid
  let R : LoopState → Option Code → Loop := fun st pe => { state := st, pending := pe, fn, tmps := a.tmps, params := ps, assign, body, defers := w.heap.size }
  let W1 : World := (w.alloc (.deferred (some []))).alloc (.loop (R .ready none))
  have hB1 : Book w W1 (R .ready none) := ⟨by have := World.alloc_heap_new (w.alloc (.deferred (some []))) (.loop (R .ready none)); rwa [World.size_alloc] at this, (Below.heap_alloc _ _ _ (by simp)).trans (World.alloc_heap_new w _)⟩
  have hW1 : w.heap.size ≤ W1.heap.size := by simp [W1]; omega
  have hbel : Below w.heap.size w W1 := (((Below.refl _ w).alloc (Nat.le_refl _) _).alloc (by simp) _)
  refine ⟨w.heap.size + 1, [mark w.heap.size], W1, { target := .fn (.func gf) lb, args := #[.func (.yield (w.heap.size + 1)) #[] #[]] }, W1, gf, #[.func (.yield (w.heap.size + 1)) #[] #[]] ++ lb, W1,
    run_enterLoop_outer _ _ _ _ _, by simp only [resolve, hg]; simp [go_sem], fun _ _ => trivial, by simp [invoke, go_sem, eg], (fun hh => by cases hh), ?_⟩
  have keepB : ∀ {β : Type} {X : β → World → Prop} (r : Loop), OwnFrom w.heap.size X → AbidesFrom W1.heap.size (fun s W => X s W ∧ Book w W r) := fun r hX s A B row hs hgr hr => by
    have hr' : ∀ q, row = some q → w.heap.size ≤ q ∧ ∃ o : Obj, A.heap[q]? = some o ∧ o.isCells = false := fun q e => by
      obtain ⟨h1, o, h2, h3⟩ := hr q e
      exact ⟨Nat.le_trans hW1 h1, o, h2, Obj.not_cells_of_walk h3⟩
    exact ⟨hX s A B row hs.1 hgr hr', (grownBy_keeps hgr (fun q e => (hr q e).2) hs.2.rec_ rfl).trans hs.2.rec_, (grownBy_keeps hgr (fun q e => (hr q e).2) hs.2.off rfl).trans hs.2.off⟩
  refine (hseq (w.heap.size + 1) (fun pre W => I pre W ∧ Book w W (R .ready none)) (fun pre W => ∃ c, Ix c pre W ∧ Book w W (R .done (some c))) W1 hbel (keepB _ hI)
    (fun s A B row ⟨c, hc⟩ hgr hr => ⟨c, keepB (R .done (some c)) (hIx c) s A B row hc hgr hr⟩) ?_ ⟨hI.alloc _ (hI.alloc _ h0), hB1⟩).mono ?_
  · rintro pre x W ⟨hi, hbk⟩ hlen
    refine ⟨fn, _, assign, body, run_yield hbk.rec_ (hps x), roundIn_of_wpIn hfn (wpIn_mono (hassign _ pre x W hi) ?_)⟩
    rintro e a' Wa ⟨rfl, hk1, hp1, hj⟩
    have hbk1 := hbk.keep hk1
    have hbk2 : Book w (Wa.putObj (w.heap.size + 1) (.loop (R .busy none))) (R .busy none) := hbk1.set
    refine ⟨_, run_beginRound hbk1.rec_ rfl, wpIn_mono (hbody _ pre x a' _ ((hJ pre x a').putObj (s := ()) _ hj (Nat.le_succ _) hbk1.rec_ rfl) hlen) ?_⟩
    have hp2 : Kp W (Wa.putObj (w.heap.size + 1) (.loop (R .busy none))) := hKt hp1 (hKb _ _ _ _ hbk1.rec_ rfl)
    have leave : ∀ (c : Code) (W3 : World), KeepsFrom w.heap.size (Wa.putObj (w.heap.size + 1) (.loop (R .busy none))) W3 → Ix c (pre ++ [x]) W3 → ∃ v w', (Instr.endRound (w.heap.size + 1) (some c)).run P W3 = .ok v w' ∧
        ((Ending.returned v = .returned (.bool true) ∧ (I (pre ++ [x]) w' ∧ Book w w' (R .ready none)) ∧ Kp W w') ∨ (Ending.returned v = .returned (.bool false) ∧ ∃ c, Ix c (pre ++ [x]) w' ∧ Book w w' (R .done (some c)))) := fun c W3 hk3 hx3 => by
      have hbk3 := hbk2.keep hk3
      exact ⟨_, _, run_endRound (some c) hbk3.rec_, .inr ⟨rfl, c, (hIx c).putObj _ hx3 (Nat.le_succ _) hbk3.rec_ rfl, hbk3.set⟩⟩
    rintro e a3 W3 hp
    cases e with
    | normal =>
      obtain ⟨hk3, hp3, hi3⟩ := hp
      have hbk3 := hbk2.keep hk3
      exact ⟨_, _, run_endRound none hbk3.rec_, .inl ⟨rfl, ⟨hI.putObj _ hi3 (Nat.le_succ _) hbk3.rec_ rfl, hbk3.set⟩, hKt (hKt hp2 hp3) (hKb _ _ _ _ hbk3.rec_ rfl)⟩⟩
    | ret => exact leave _ W3 hp.1 hp.2
    | exit id => exact leave _ W3 hp.1 hp.2
    | goto t => exact leave _ W3 hp.1 hp.2
    | panic ch => exact hp.elim
    | outgrown => exact hp.elim
  · rintro e W2 ⟨⟨v, rfl⟩, (⟨xs, hS, hi, hbk⟩ | ⟨pre, hSp, c, hx, hbk⟩)⟩
    · exact ⟨none, _, run_endLoop hbk.rec_ (by simp [R]), hdone xs _ hS (hI.putObj _ hi (Nat.le_succ _) hbk.rec_ rfl) ((World.putObj_heap_other (by omega)).trans hbk.off)⟩
    · exact ⟨some c, _, run_endLoop hbk.rec_ (by simp [R]), hstop c pre _ hSp ((hIx c).putObj _ hx (Nat.le_succ _) hbk.rec_ rfl) ((World.putObj_heap_other (by omega)).trans hbk.off)⟩
end

/-! ### Over abstract states -/
def KpK (K : Know) (W W' : World) : Prop := ∀ b o u, K b o = some u → W.cell? ⟨b, o, none⟩ = some u → W'.cell? ⟨b, o, none⟩ = some u
theorem KpK.trans {K : Know} {A B C : World} (h : KpK K A B) (h' : KpK K B C) : KpK K A C := fun b o u hk hc => h' b o u hk (h b o u hk hc)
theorem KpK.turn {K : Know} (W : World) (l : Nat) (o o' : Obj) (h : W.heap[l]? = some o) (hc : o.isCells = false) : KpK K W (W.putObj l o') := fun b i u _ hcell => by
  have hne : b ≠ l := by
    rintro rfl
    simp only [World.cell?, h] at hcell
    cases o <;> simp_all [Obj.isCells]
  simp only [World.cell?, heap_putObj W l o' hne] at hcell ⊢
  exact hcell
def St.noRows (S : St) : Prop := ∀ r e k xs, ¬ S.has (.row r e k xs)
theorem own_less {w : World} {base base' e k : Nat} {v : Value} {m : Nat} {cs : List Value} (h : w.ownsRow base e k v m cs) (hb : base' ≤ base) : w.ownsRow base' e k v m cs := by
  refine ⟨h.1, ?_⟩
  rcases h.2 with h | ⟨g, cap, cur, q1, q2, q3⟩
  · exact .inl h
  · exact .inr ⟨g, cap, cur, q1, Nat.le_trans hb q2, q3⟩
section
variable {P : Program} {N : Nat} {K0 : Know} {w0 : Bas} {S S' : St} {K K' : Know} {n n' : Nm} {a a' : Act} {W W' : World}
noncomputable def Bas.at (w0 : Bas) (N : Nat) (W : World) (n : Nm) (S : St) : Bas := ⟨W, foot n S.boxes S.arrs, fun d => if N ≤ d ∧ hasB S.boxes d = true then n.β d else w0.β d, false⟩
theorem Sim.foot_own (hs : Sim N K0 w0 S K n a W) {b : Nat} (h : foot n S.boxes S.arrs b) : w0.isOwn b ∧ ∃ c t f, W.heap[b]? = some (.cells c t f) := by
  rcases h with ⟨d, cs, hm, hn⟩ | ⟨d, A, hm, hn⟩
  · obtain ⟨b', arr, ty, q1, q2, q3, _⟩ := hs.box d cs hm
    rw [hn] at q1; injection q1 with q1; subst q1
    exact ⟨q2, _, _, _, q3⟩
  · obtain ⟨q1, q2, q3⟩ := hs.arr d A hm
    exact ⟨(q3 b hn).1, own_cells q1 b hn⟩
theorem Sim.rebase (hs : Sim N K0 w0 S K n a W) (hnr : S.noRows) : Sim N K (w0.at N W n S) S K n a W where
  size := hs.size
  defers := fun h => by cases h
  below := ⟨rfl, rfl, rfl, Nat.le_refl _, fun _ _ _ => rfl⟩
  k0 := Know.le_refl K
  knew := fun _ _ _ h _ => h
  ok := hs.ok
  tmp := hs.tmp
  box := fun d cs hm => by
    obtain ⟨b, arr, ty, q1, _, q3⟩ := hs.box d cs hm
    exact ⟨b, arr, ty, q1, .inr (.inl ⟨d, cs, hm, q1⟩), q3⟩
  boxInj := hs.boxInj
  boxOne := hs.boxOne
  row := fun r e k xs h => absurd h (hnr r e k xs)
  rowInj := fun r e k xs r' e' k' xs' g h => absurd h (hnr r e k xs)
  arr := fun d A hm => by
    obtain ⟨q1, q2, q3⟩ := hs.arr d A hm
    exact ⟨q1, q2, fun g hg => ⟨.inr (.inr ⟨d, A, hm, hg⟩), (q3 g hg).2⟩⟩
  arrInj := hs.arrInj
  arrOne := hs.arrOne
  fix := fun d b hb => by
    simp only [Bas.at] at hb
    split at hb
    · rename_i h; exact ⟨hb, h.1⟩
    · exact hs.fix d b hb
theorem Sim.unbase (ht : w0.top = false) (hs : Sim N K0 w0 S K n a W) (h : Sim N K (w0.at N W n S) S' K' n' a' W') : Sim N K0 w0 S' K' n' a' W' ∧ KeepsOthers W W' ∧ KpK K W W' ∧ K.le K' ∧ ∀ d, N ≤ d → hasB S.boxes d = true → n'.β d = n.β d := by
  have hblk : ∀ b, b < W.heap.size → ¬ foot n S.boxes S.arrs b → W'.heap[b]? = W.heap[b]? := h.below.block
  have hbase : w0.w.heap.size ≤ W.heap.size := hs.base
  have hown : ∀ b, (w0.at N W n S).isOwn b → w0.isOwn b := fun b hb => by
    rcases hb with hb | hb
    · exact .inl (Nat.le_trans hbase hb)
    · exact (hs.foot_own hb).1
  refine ⟨{
    size := h.size
    defers := fun h => by rw [ht] at h; cases h
    below := hs.below.step h.below.os h.below.tape h.below.output h.below.size fun b hb hno => hblk b (Nat.lt_of_lt_of_le hb hbase) (fun hf => by
      rcases (hs.foot_own hf).1 with q | q
      · omega
      · exact hno q)
    k0 := Know.le_trans hs.k0 h.k0
    knew := fun b o u hu hlt => hs.knew b o u (h.knew b o u hu (Nat.lt_of_lt_of_le hlt hbase)) hlt
    ok := h.ok
    tmp := h.tmp
    box := fun d cs hm => by
      obtain ⟨b, arr, ty, q1, q2, q3⟩ := h.box d cs hm
      exact ⟨b, arr, ty, q1, hown b q2, q3⟩
    boxInj := h.boxInj
    boxOne := h.boxOne
    row := fun r e k xs hr => by
      obtain ⟨q1, q2⟩ := h.row r e k xs hr
      exact ⟨own_less q1 hbase, q2⟩
    rowInj := h.rowInj
    arr := fun d A hm => by
      obtain ⟨q1, q2, q3⟩ := h.arr d A hm
      exact ⟨q1, q2, fun g hg => ⟨hown g (q3 g hg).1, (q3 g hg).2⟩⟩
    arrInj := h.arrInj
    arrOne := h.arrOne
    fix := fun d b hb => by
      obtain ⟨q1, q2⟩ := hs.fix d b hb
      refine ⟨(h.fix d b ?_).1, q2⟩
      simp only [Bas.at]
      split
      · exact q1
      · exact hb }, ⟨h.below.size, fun k o hk hc => ?_⟩, fun b o u hk _ => h.ok b o u (h.k0 b o u hk), h.k0, fun d hN hd => ?_⟩
  · rw [hblk k (Array.getElem?_eq_some_iff.1 hk).1 (fun hf => by
      obtain ⟨_, c, t, f, hcc⟩ := hs.foot_own hf
      rw [hk] at hcc; injection hcc with hcc; subst hcc; cases hc)]
    exact hk
  · obtain ⟨cs, hm⟩ := hasB_ex hd
    obtain ⟨b, _, _, q1, _⟩ := hs.box d cs hm
    rw [q1]
    exact (h.fix d b (by simp only [Bas.at]; rw [if_pos ⟨hN, hd⟩]; exact q1)).1
theorem round_walk {l m : Nat} {c : Code} {Q : Exit → St → Prop} (ht : w0.top = false) (hs : Sim N K0 w0 S K n a W) (hnr : S.noRows)
    (h : ∀ K1 (B : Bas), (∀ d, w0.β d = none → (N ≤ d → hasB S.boxes d = false) → B.β d = none) → CTI l P N K1 B c S Q) :
    c.wpIn (Fence.wide.inRound l) m P (fun e a' W' => ∃ K' n' S', Q e S' ∧ Sim N K0 w0 S' K' n' a' W' ∧ KeepsOthers W W' ∧ KpK K W W' ∧ K.le K' ∧ ∀ d, N ≤ d → hasB S.boxes d = true → n'.β d = n.β d) a W := by
  refine wpIn_mono (h K (w0.at N W n S) (fun d h1 h2 => by simp only [Bas.at]; rw [if_neg (fun hh => by rw [h2 hh.1] at hh; exact absurd hh.2 (by simp))]; exact h1) m K n a W (hs.rebase hnr)) ?_
  rintro e a' W' ⟨K', n', S', hq, hs'⟩
  obtain ⟨q1, q2⟩ := hs.unbase ht hs'
  exact ⟨K', n', S', hq, q1, q2⟩
theorem Sim.turned (hs : Sim N K0 w0 S K n a W) {row : Option Nat} (hg : W.grownBy W' row) (hr : ∀ r, row = some r → w0.w.heap.size ≤ r ∧ ∃ o : Obj, W.heap[r]? = some o ∧ o.isCells = false) (hd : w0.top = true → Marks w0 a W') : Sim N K0 w0 S K n a W' where
  size := hs.size
  defers := hd
  below := hs.below.step hg.os hg.tape hg.output hg.size fun b hb _ => hg.block b (Nat.lt_of_lt_of_le hb hs.below.size) (fun e => by have := (hr b e.symm).1; omega)
  k0 := hs.k0
  knew := hs.knew
  ok := fun b o u hu => cell_kept (hs.ok b o u hu) hg (fun r e => (hr r e).2)
  tmp := hs.tmp
  box := fun d cs hm => by
    obtain ⟨b, arr, ty, q1, q2, q3, q4⟩ := hs.box d cs hm
    exact ⟨b, arr, ty, q1, q2, (grownBy_keeps_cells hg (fun r e => (hr r e).2) q3 rfl).trans q3, q4⟩
  boxInj := hs.boxInj
  boxOne := hs.boxOne
  row := fun r e k xs hrow => by
    obtain ⟨q1, q2⟩ := hs.row r e k xs hrow
    refine ⟨⟨q1.1, ?_⟩, q2⟩
    rcases q1.2 with q | ⟨g, cap, cur, u1, u2, u3, u4⟩
    · exact .inl q
    · exact .inr ⟨g, cap, cur, u1, u2, (grownBy_keeps_cells hg (fun r e => (hr r e).2) u3 rfl).trans u3, u4⟩
  rowInj := hs.rowInj
  arr := fun d A hm => by
    obtain ⟨q1, q2, q3⟩ := hs.arr d A hm
    refine ⟨⟨q1.1, ?_⟩, q2, q3⟩
    rcases q1.2 with q | ⟨g, cap, cur, u1, u2, u3, u4⟩
    · exact .inl q
    · exact .inr ⟨g, cap, cur, u1, u2, (grownBy_keeps_cells hg (fun r e => (hr r e).2) u3 rfl).trans u3, u4⟩
  arrInj := hs.arrInj
  arrOne := hs.arrOne
  fix := hs.fix
end

/-! ### Boxes named anew -/
section
variable {P : Program} {N : Nat} {K0 : Know} {w0 : Bas} {S S' : St} {K K' : Know} {n n' : Nm} {a a' : Act} {w : World} {σ τ : Nat → Nat}
end
end Go.Proofs.Ytkfmammkbmhfaaa

/- Abstract walks: the loop over a function, over abstract states. -/
namespace Go.Proofs.Ytkfmammkbmhfaaa
set_option linter.unusedSimpArgs false
set_option linter.unusedVariables false
open Go Go.RowKit Go.Shelf

def AV.okTm (bs : List (Nat × List AV)) : AV → Bool
  | .val _ | .dead | .sl _ _ | .full _ _ | .cptr _ | .clo _ _ | .pr _ => true
  | .ptr d _ => hasB bs d
  | .cloB _ ds => ds.all fun p => hasB bs p.1
  | _ => false
theorem Rep.okTm {K K' : Know} {n n' : Nm} {bs : List (Nat × List AV)} {A : AV} {c : Value} (hok : A.okTm bs = true) (hK : K.le K') (hβ : ∀ d, hasB bs d = true → n'.β d = n.β d) (h : Rep K n A c) : Rep K' n' A c := by
  have h' := h.mono hK
  cases A with
  | val v => exact h'
  | dead => trivial
  | sl k xs => exact h'
  | full k xs => exact h'
  | cptr vs => exact h'
  | clo f cs => exact h'
  | pr p => exact h'
  | ptr d o => obtain ⟨b, h1, h2⟩ := h'; exact ⟨b, by rw [hβ d hok]; exact h1, h2⟩
  | cloB f ds =>
    obtain ⟨ps, e, h1, h2⟩ := h'
    refine ⟨ps, e, h1, fun i p d off hp hd => ?_⟩
    obtain ⟨b, h3, h4⟩ := h2 i p d off hp hd
    exact ⟨b, by rw [hβ d (List.all_eq_true.1 hok _ (List.mem_of_getElem? hd))]; exact h3, h4⟩
  | row => cases hok
  | arow => cases hok
  | aptr => cases hok
  | asub => cases hok
  | tup => cases hok
theorem okTm_row {bs : List (Nat × List AV)} {A : AV} (h : A.okTm bs = true) {r e k : Nat} {xs : Cells} : ¬ (AV.row r e k xs).of A := by
  rintro (rfl | ⟨vs, rfl, hm⟩) <;> cases h
def AV.plainRow : AV → Bool
  | .row _ _ _ _ => false
  | .tup vs => vs.all fun A => !A.isRow
  | _ => true
def St.noRowsB (S : St) : Bool := S.tmps.all (fun p => p.2.plainRow) && S.boxes.all (fun p => p.2.all fun A => !A.isRow)
theorem St.noRows_of {S : St} (h : S.noRowsB = true) : S.noRows := by
  simp only [St.noRowsB, Bool.and_eq_true] at h
  rintro r e k xs (⟨t, ht⟩ | ⟨d, cs, hm, hA⟩)
  · rcases getT_mem S.tmps t with e1 | ⟨s, hm⟩
    · unfold St.get at ht; rw [e1] at ht; rcases ht with ht | ⟨_, ht, _⟩ <;> cases ht
    · have h1 := List.all_eq_true.1 h.1 _ hm
      unfold St.get at ht
      rcases ht with ht | ⟨vs, ht, hv⟩
      · rw [ht] at h1; cases h1
      · rw [ht] at h1; have := List.all_eq_true.1 h1 _ hv; cases this
  · have := List.all_eq_true.1 (List.all_eq_true.1 h.2 _ hm) _ hA; cases this
def roundQ (bs' : List (Nat × List AV)) (ar' : List (Nat × Arr)) : Exit → St → Prop := fun e S => e = .normal ∧ bs'.map (fun p => getB S.boxes p.1) = bs'.map (fun p => some p.2) ∧ ar'.map (fun p => getA S.arrs p.1) = ar'.map (fun p => some p.2)
section
variable {P : Program} {N : Nat} {K0 : Know} {w0 : Bas} {QE : Exit → St → Prop} {α : Type}
def Mk (w0 : Bas) (a : Act) (w W : World) : Prop := w0.top = true → ∃ Ds : List Nat, a.defers = Ds.map mark ∧ Ds.Nodup ∧ ∀ D ∈ Ds, w0.w.heap.size ≤ D ∧ D < w.heap.size ∧ W.heap[D]? = some (Obj.deferred (some []))
theorem Mk.keep {a : Act} {w W W' : World} (h : Mk w0 a w W) (hb : ∀ D o, D < w.heap.size → W.heap[D]? = some o → o.isCells = false → W'.heap[D]? = some o) : Mk w0 a w W' := fun ht => by
  obtain ⟨Ds, h1, h2, h3⟩ := h ht
  exact ⟨Ds, h1, h2, fun D hD => ⟨(h3 D hD).1, (h3 D hD).2.1, hb D _ (h3 D hD).2.1 (h3 D hD).2.2 rfl⟩⟩
def Bas.low (w0 : Bas) : Bas := ⟨w0.w, w0.own, w0.β, false⟩
theorem Sim.low {S : St} {K : Know} {n : Nm} {a a' : Act} {w : World} (h : Sim N K0 w0 S K n a w) (ha : a'.tmps = a.tmps) : Sim N K0 w0.low S K n a' w :=
  { h with size := by rw [ha]; exact h.size, defers := fun h => (by cases h), tmp := fun t => by rw [ha]; exact h.tmp t, below := ⟨h.below.os, h.below.tape, h.below.output, h.below.size, h.below.block⟩ }
theorem Sim.high {S : St} {K : Know} {n : Nm} {a a' : Act} {w : World} (h : Sim N K0 w0.low S K n a w) (ha : a'.tmps = a.tmps) (hd : w0.top = true → Marks w0 a' w) : Sim N K0 w0 S K n a' w :=
  { h with size := by rw [ha]; exact h.size, defers := hd, tmp := fun t => by rw [ha]; exact h.tmp t, below := ⟨h.below.os, h.below.tape, h.below.output, h.below.size, h.below.block⟩ }
theorem CT.range {g : Operand} {p1 p2 id : Nat} {os : List Oper} {body : Code} {tm : List (Nat × AV)} (T : List α → List (Nat × List AV)) (TA : List α → List (Nat × Arr)) (e1 e2 : α → Value) (M : Nat) (Sd Sp : List α → Prop) (hp1 : p1 < N) (hp2 : p2 < N)
    (hit : ∀ K n a w, Sim N K0 w0 ⟨tm, T [], TA []⟩ K n a w → ∃ gf lb, a.eval g = .func (.func gf) #[] lb ∧ (∀ args w, (callFunc gf args).run P w = .ok (.enter gf args) w) ∧ SeqStopsK Fence.wide 2 P gf lb (fun x => #[e1 x, e2 x]) (KpK K) Sd Sp M w)
    (htm : tm.all (fun p => p.2.okTm (T [])) = true) (hN : (T []).all (fun p => decide (N ≤ p.1)) = true) (hnames : ∀ pre d, hasB (T pre) d = hasB (T []) d) (hcell : ∀ pre, (T pre).all (fun p => p.2.all fun A => !A.isRow) = true) (hnd : os.all noDefer = true)
    (hround : ∀ K1 (B : Bas) pre x, (∀ d, w0.β d = none → hasB (T []) d = false → B.β d = none) → LT P N K1 B os.toArray os ⟨(p2, .val (e2 x)) :: (p1, .val (e1 x)) :: tm, T pre, TA pre⟩ (fun S1 => S1.noRowsB = true ∧ (T []).all (fun p => hasB S1.boxes p.1) = true ∧
      (pre.length < M → ∀ l K2 (B2 : Bas), (∀ d, w0.β d = none → (N ≤ d → hasB S1.boxes d = false) → B2.β d = none) → CTI l P N K2 B2 body S1 (roundQ (T (pre ++ [x])) (TA (pre ++ [x]))))))
    (hdone : ∀ xs, Sd xs → QE .normal ⟨tm, T xs, TA xs⟩) : CT P N K0 w0 (.rangeFunc g #[p1, p2] (.region id os.toArray false) body) ⟨tm, T [], TA []⟩ QE := by
  intro K n a w hs
  obtain ⟨gf, lb, hg, eg, hseq⟩ := hit K n a w hs
  have hbase : w0.w.heap.size ≤ w.heap.size := hs.base
  have hNT : ∀ d, hasB (T []) d = true → N ≤ d := fun d hd => by
    obtain ⟨cs, hm⟩ := hasB_ex hd
    simpa using List.all_eq_true.1 hN _ hm
  have hmk0 : Mk w0 a w w := fun ht => by
    obtain ⟨Ds, h1, h2, h3⟩ := hs.defers ht
    exact ⟨Ds, h1, h2, fun D hD => ⟨(h3 D hD).1, (Array.getElem?_eq_some_iff.1 (h3 D hD).2).1, (h3 D hD).2⟩⟩
  have hnoT : ∀ pre, (⟨tm, T pre, TA pre⟩ : St).noRows := fun pre r e k xs hr => by
    rcases hr with ⟨t, ht⟩ | ⟨d, cs, hm, hA⟩
    · rcases getT_mem tm t with q | ⟨s, hm⟩
      · have ht' : (AV.row r e k xs).of (getT tm t) := ht
        rw [q] at ht'; rcases ht' with ht' | ⟨_, ht', _⟩ <;> cases ht'
      · exact okTm_row (List.all_eq_true.1 htm _ hm) ht
    · have := List.all_eq_true.1 (List.all_eq_true.1 (hcell pre) _ hm) _ hA; cases this
  let a0 : Act := { a with defers := [] }
  let I : List α → World → Prop := fun pre W => Mk w0 a w W ∧ w.heap.size ≤ W.heap.size ∧ ∃ K' n', Sim N K0 w0.low ⟨tm, T pre, TA pre⟩ K' n' a0 W ∧ K.le K' ∧ ∀ d, hasB (T []) d = true → n'.β d = n.β d
  let J : List α → α → Act → World → Prop := fun pre x a' W => Mk w0 a w W ∧ w.heap.size ≤ W.heap.size ∧ ∃ S1 K' n', Sim N K0 w0.low S1 K' n' a' W ∧ K.le K' ∧ (∀ d, hasB (T []) d = true → n'.β d = n.β d) ∧
    S1.noRowsB = true ∧ (T []).all (fun p => hasB S1.boxes p.1) = true ∧ (pre.length < M → ∀ l K2 (B2 : Bas), (∀ d, w0.β d = none → (N ≤ d → hasB S1.boxes d = false) → B2.β d = none) → CTI l P N K2 B2 body S1 (roundQ (T (pre ++ [x])) (TA (pre ++ [x])))) ∧
    ∀ t, Rep K' n' (getT tm t) (a0.tmps.getD t undef)
  have hmkT : ∀ {W W' : World} {row : Option Nat}, Mk w0 a w W → w.heap.size ≤ W.heap.size → W.grownBy W' row → (∀ r, row = some r → w.heap.size ≤ r ∧ ∃ o : Obj, W.heap[r]? = some o ∧ o.isCells = false) → Mk w0 a w W' := fun hm hsz hgr hr => hm.keep fun D o hD ho _ => by
    rw [hgr.block D (Nat.lt_of_lt_of_le hD hsz) (fun e => by have := (hr D e.symm).1; omega)]; exact ho
  have hlowr : ∀ {W : World} {row : Option Nat}, (∀ r, row = some r → w.heap.size ≤ r ∧ ∃ o : Obj, W.heap[r]? = some o ∧ o.isCells = false) → ∀ r, row = some r → w0.low.w.heap.size ≤ r ∧ ∃ o : Obj, W.heap[r]? = some o ∧ o.isCells = false := fun hr r e => ⟨Nat.le_trans hbase (hr r e).1, (hr r e).2⟩
  have htmT : ∀ {K' n'} , K.le K' → (∀ d, hasB (T []) d = true → n'.β d = n.β d) → ∀ t, Rep K' n' (getT tm t) (a0.tmps.getD t undef) := fun hK hβ t => by
    rcases getT_mem tm t with q | ⟨s, hm⟩
    · rw [q]; trivial
    · exact (hs.tmp t).okTm (List.all_eq_true.1 htm _ hm) hK hβ
  refine (wpIn_wide (n := 3)).1 (range_joint (ps := #[p1, p2]) hg eg (encs := fun x => #[e1 x, e2 x]) (Kp := KpK K) hseq (fun h h' => h.trans h') (fun W l o o' h hc => KpK.turn W l o o' h hc) (fun x => rfl) I (fun _ _ _ => False) J ?_ (fun c s W W' row h => h.elim) ?_ ?_ ?_ ?_ ?_ ?_)
  · -- I abides a turn
    rintro pre W W' row ⟨h1, h2, K', n', h3, h4, h5⟩ hgr hr
    exact ⟨hmkT h1 h2 hgr hr, Nat.le_trans h2 hgr.size, K', n', h3.turned hgr (hlowr hr) (fun h => by cases h), h4, h5⟩
  · -- J abides a turn
    rintro pre x a' _ W W' row ⟨h1, h2, S1, K', n', h3, h4⟩ hgr hr
    exact ⟨hmkT h1 h2 hgr hr, Nat.le_trans h2 hgr.size, S1, K', n', h3.turned hgr (hlowr hr) (fun h => by cases h), h4⟩
  · exact ⟨hmk0, Nat.le_refl _, K, n, hs.low rfl, Know.le_refl K, fun _ _ => rfl⟩
  · -- the assignments of a round
    rintro l pre x W ⟨h1, h2, K', n', h3, h4, h5⟩
    have hput : Sim N K0 w0.low ⟨(p2, .val (e2 x)) :: (p1, .val (e1 x)) :: tm, T pre, TA pre⟩ K' n' ((a0.put (some p1) (e1 x)).put (some p2) (e2 x)) W := (h3.put hp1 (A := .val (e1 x)) rfl (fun r e k xs h => has_val r e k xs h)).put hp2 (A := .val (e2 x)) rfl (fun r e k xs h => has_val r e k xs h)
    have hact : ({ tmps := ((#[p1, p2] : Array Tmp).zip #[e1 x, e2 x]).foldl (fun t (p, v) => t.setIfInBounds p v) a.tmps, defers := [] } : Act) = (a0.put (some p1) (e1 x)).put (some p2) (e2 x) := by simp [Act.put, a0]
    rw [hact]
    have hnr : (⟨(p2, .val (e2 x)) :: (p1, .val (e1 x)) :: tm, T pre, TA pre⟩ : St).noRows := fun r e k xs hr => by
      rcases hr with ⟨t, ht⟩ | hr
      · have ht' : (AV.row r e k xs).of (((⟨tm, T pre, TA pre⟩ : St).put p1 (.val (e1 x))).put p2 (.val (e2 x)) |>.get t) := ht
        rw [St.get_put] at ht'
        split at ht'
        · rcases ht' with ht' | ⟨_, ht', _⟩ <;> cases ht'
        · rw [St.get_put] at ht'
          split at ht'
          · rcases ht' with ht' | ⟨_, ht', _⟩ <;> cases ht'
          · exact hnoT pre r e k xs (.inl ⟨t, ht'⟩)
      · exact hnoT pre r e k xs (.inr hr)
    refine wpIn_mono (round_walk (l := l) (w0 := w0.low) (c := .region id os.toArray false) (Q := fun e S1 => e = .normal ∧ S1.noRowsB = true ∧ (T []).all (fun p => hasB S1.boxes p.1) = true ∧
      (pre.length < M → ∀ l K2 (B2 : Bas), (∀ d, w0.β d = none → (N ≤ d → hasB S1.boxes d = false) → B2.β d = none) → CTI l P N K2 B2 body S1 (roundQ (T (pre ++ [x])) (TA (pre ++ [x]))))) rfl hput hnr (fun K1 B hB => CTI.region hnd (LT.mono (hround K1 B pre x (fun d q1 q2 => hB d q1 (fun _ => by show hasB (T pre) d = false; rw [hnames]; exact q2))) fun S1 h => ⟨rfl, h⟩))) ?_
    rintro e a' W' ⟨K2, n2, S1, ⟨rfl, q1, q2, q3⟩, hs1, hko, hkp, hle, hβ⟩
    have hβ2 : ∀ d, hasB (T []) d = true → n2.β d = n.β d := fun d hd => (hβ d (hNT d hd) (by show hasB (T pre) d = true; rw [hnames]; exact hd)).trans (h5 d hd)
    refine ⟨rfl, hko.from _, fun b o u hk hc => hkp b o u (h4 b o u hk) hc, h1.keep fun D o hD ho hoc => hko.same D o ho hoc, Nat.le_trans h2 hko.size, S1, K2, n2, hs1, Know.le_trans h4 hle, hβ2, q1, q2, q3, htmT (Know.le_trans h4 hle) hβ2⟩
  · -- the body of a round
    rintro l pre x a' W ⟨h1, h2, S1, K', n', h3, h4, h5, h6, h7, h8, h9⟩ hlen
    refine wpIn_mono (round_walk (l := l) (w0 := w0.low) rfl h3 (St.noRows_of h6) (fun K1 B hB => h8 hlen l K1 B hB)) ?_
    rintro e a2 W' ⟨K2, n2, S2, ⟨rfl, r1, r2⟩, hs2, hko, hkp, hle, hβ⟩
    have hβ2 : ∀ d, hasB (T []) d = true → n2.β d = n.β d := fun d hd => by
      obtain ⟨cs, hm⟩ := hasB_ex hd
      exact (hβ d (hNT d hd) (List.all_eq_true.1 h7 _ hm)).trans (h5 d hd)
    have hK2 := Know.le_trans h4 hle
    refine ⟨hko.from _, fun b o u hk hc => hkp b o u (h4 b o u hk) hc, h1.keep fun D o hD ho hoc => hko.same D o ho hoc, Nat.le_trans h2 hko.size, K2, n2, ?_, hK2, hβ2⟩
    have mb : ∀ d cs, (d, cs) ∈ T (pre ++ [x]) → (d, cs) ∈ S2.boxes := fun d cs hm => getB_mem (map_some_mem (g := Prod.snd) r1 _ hm)
    have ma : ∀ d A, (d, A) ∈ TA (pre ++ [x]) → (d, A) ∈ S2.arrs := fun d A hm => getA_mem (map_some_mem (g := Prod.snd) r2 _ hm)
    exact {
      size := hs.size
      defers := fun h => by cases h
      below := hs2.below
      k0 := hs2.k0
      knew := hs2.knew
      ok := hs2.ok
      tmp := htmT hK2 hβ2
      box := fun d cs hm => hs2.box d cs (mb d cs hm)
      boxInj := fun d cs d' cs' b q1 q2 => hs2.boxInj d cs d' cs' b (mb _ _ q1) (mb _ _ q2)
      boxOne := fun d cs cs' q1 q2 => hs2.boxOne d cs cs' (mb _ _ q1) (mb _ _ q2)
      row := fun r e k xs h => absurd h (hnoT _ r e k xs)
      rowInj := fun r e k xs r' e' k' xs' g h => absurd h (hnoT _ r e k xs)
      arr := fun d A hm => by
        obtain ⟨q1, q2, q3⟩ := hs2.arr d A (ma d A hm)
        exact ⟨q1, q2, fun g hg => ⟨(q3 g hg).1, (q3 g hg).2.1, fun d' cs hm' => (q3 g hg).2.2.1 d' cs (mb _ _ hm'), fun r e k xs h => absurd h (hnoT _ r e k xs)⟩⟩
      arrInj := fun d A d' A' g q1 q2 => hs2.arrInj d A d' A' g (ma _ _ q1) (ma _ _ q2)
      arrOne := fun d A A' q1 q2 => hs2.arrOne d A A' (ma _ _ q1) (ma _ _ q2)
      fix := hs2.fix }
  · -- behind it
    rintro xs W hS ⟨h1, h2, K', n', h3, h4, h5⟩ hoff
    refine ⟨K', n', _, hdone xs hS, h3.high rfl fun ht => ?_⟩
    obtain ⟨Ds, q1, q2, q3⟩ := h1 ht
    refine ⟨w.heap.size :: Ds, by simp [q1], List.nodup_cons.2 ⟨fun hm => absurd (q3 _ hm).2.1 (Nat.lt_irrefl _), q2⟩, fun D hD => ?_⟩
    rcases List.mem_cons.1 hD with rfl | hD
    · exact ⟨hbase, hoff⟩
    · exact ⟨(q3 D hD).1, (q3 D hD).2.2⟩
  · rintro c pre W _ h; exact h.elim
end
end Go.Proofs.Ytkfmammkbmhfaaa

/- Abstract walks: calls of closures, slices in boxes. -/
namespace Go.Proofs.Ytkfmammkbmhfaaa
set_option linter.unusedSimpArgs false
set_option linter.unusedVariables false
open Go Go.RowKit Go.Shelf

section
variable {P : Program} {N : Nat} {K0 : Know} {w0 : Bas} {S S' : St} {K K' : Know} {n : Nm} {a : Act} {w w' : World} {Q : St → Prop}
variable {d dO : Option Nat} {ty : TypeId} {pos : String} {aft : Array Edge} {g : Option (Nat × Bool)} {t e : TypeId} {x y : Operand} {tm : List (Nat × AV)} {bs : List (Nat × List AV)} {ar : List (Nat × Arr)} {dn : Nat}
/-! ### Calls of closures -/
/-! ### Slices in boxes -/
inductive AV.One : AV → AV → Prop
  | sl {A k xs} (h : A.Sl k xs) : AV.One A (.sl k xs)
  | arow {r : Nat} : AV.One (.arow r) (.arow r)
theorem AV.One.rep {A B : AV} {c : Value} (h : A.One B) (hr : Rep K n A c) (hw : Sim N K0 w0 S K n a w) (hS : ∀ d, A = .arow d → ∃ X, (d, X) ∈ S.arrs) : Rep1 K n B c ∧ c.cells = #[c] ∧ c.oneCell' = true := by
  cases h with
  | sl h => obtain ⟨A', cap, rfl, h1⟩ := h.slice hr; exact ⟨⟨A', cap, rfl, h1⟩, rfl, rfl⟩
  | arow =>
    rename_i d
    obtain ⟨X, hm⟩ := hS d rfl
    obtain ⟨A', cap, h1, _⟩ := own_val (hw.arr d X hm).1
    have hr' : c = n.ρ d := hr
    rw [h1] at hr'
    subst hr'
    exact ⟨h1.symm, rfl, rfl⟩
theorem T.store1 {b o : Nat} {A B : AV} {cs cs' : List AV} (h1 : St.opv ⟨tm, bs, ar⟩ x = .ptr b o) (h2 : St.opv ⟨tm, bs, ar⟩ y = A) (hA : A.One B) (hhas : (match A.aname with | some d => hasA ar d | none => true) = true) (hb : getB bs b = some cs) (hk : (P.info? t).map (·.size) = some 1) (ho : o + 1 ≤ cs.length)
    (hcs : cs.set o B = cs') {bs' : List (Nat × List AV)} (hbs : setBx bs b cs' = bs') (hq : Q ⟨tm, bs', ar⟩) : OpT P N K0 w0 ⟨none, .store t x y, ty, pos, aft, g⟩ ⟨tm, bs, ar⟩ Q := by
  subst hbs hcs
  intro K n a w hs
  have e1 := hs.opv x
  have e2 := hs.opv y
  rw [h1] at e1
  rw [h2] at e2
  obtain ⟨b', hβ, e1⟩ := e1
  have hm : (b, cs) ∈ (⟨tm, bs, ar⟩ : St).boxes := getB_mem hb
  obtain ⟨q1, q2, q3⟩ := hA.rep e2 hs (fun d hd => by rw [hd] at hhas; exact hasA_ex hhas)
  obtain ⟨b2, arr, ty2, p1, p2, p3, p4, p5, p6⟩ := hs.box b cs hm
  rw [hβ] at p1
  injection p1 with p1
  subst p1
  unfold Oper.wp
  simp only [execOp]
  rw [e1, Sem.run_bind, run_storeV (by rw [q2]; exact hk) (by rw [q2]; simpa using q3) p3 (by rw [q2, p4]; exact ho)]
  have hnB : ∀ r e k xs, B ≠ .row r e k xs := by cases hA <;> (intros; intro h; cases h)
  refine ⟨K, n, _, hq, hs.store hβ hm (vs := (a.eval y).cells.toList) (by rw [q2]; simpa using ho) (by simp) (fun i c u hi hu => ?_) (fun i c hi hio => ?_) (fun r e k xs h => ?_)⟩
  · rw [q2] at hu
    cases i with
    | zero =>
      simp at hu
      subst hu
      rw [Nat.add_zero, List.getElem?_set_self (by omega)] at hi
      injection hi with hi
      subst hi
      exact q1
    | succ i => simp at hu
  · rw [q2] at hio
    rw [List.getElem?_set_ne (by simp at hio; omega)] at hi
    exact hi
  · rcases List.mem_or_eq_of_mem_set h with h | h
    · exact .inr ⟨b, cs, hm, h⟩
    · exact absurd h.symm (hnB r e k xs)
theorem Sim.nilBox (h : Sim N K0 w0 S K n a w) {b o d e k : Nat} {cs : List AV} (hm : (b, cs) ∈ S.boxes) (hv : cs[o]? = some (.val (.slice none 0 0))) (hf : S.free d = true) : Sim N K0 w0 ⟨S.tmps, setBx S.boxes b (cs.set o (.arow d)), (d, ⟨e, k, []⟩) :: S.arrs⟩ K (n.setρ d (.slice none 0 0)) a w := by
  have h1 := h.setρ hf (.slice none 0 0)
  have hρ : (n.setρ d (.slice none 0 0)).ρ d = .slice none 0 0 := by simp [Nm.setρ]
  have ho : o < cs.length := (List.getElem?_eq_some_iff.1 hv).1
  have hbx : ∀ b' cs', (b', cs') ∈ setBx S.boxes b (cs.set o (.arow d)) → ∃ c, (b', c) ∈ S.boxes := fun b' cs' hm' => by
    obtain ⟨c, h2, _⟩ := setBx_mem hm'; exact ⟨c, h2⟩
  have hh : ∀ r e' k' xs', (⟨S.tmps, setBx S.boxes b (cs.set o (.arow d)), (d, ⟨e, k, []⟩) :: S.arrs⟩ : St).has (.row r e' k' xs') → S.has (.row r e' k' xs') := by
    intro r e' k' xs' hr
    rcases hr with ht | ⟨b', cs', hm', hA⟩
    · exact .inl ht
    · obtain ⟨c, h2, ⟨rfl, rfl⟩ | ⟨_, rfl⟩⟩ := setBx_mem hm'
      · rcases List.mem_or_eq_of_mem_set hA with hA | hA
        · exact .inr ⟨b', cs, hm, hA⟩
        · cases hA
      · exact .inr ⟨b', c, h2, hA⟩
  exact {
    size := h.size
    defers := h.defers
    below := h.below
    k0 := h.k0
    knew := h.knew
    ok := h.ok
    tmp := h1.tmp
    box := fun b' cs' hm' => by
      obtain ⟨c, h2, ⟨rfl, rfl⟩ | ⟨_, rfl⟩⟩ := setBx_mem hm'
      · obtain ⟨b2, arr, ty, q1, q2, q3, q4, q5, q6⟩ := h1.box b' cs hm
        refine ⟨b2, arr, ty, q1, q2, q3, by simpa using q4, fun i A hi => ?_, q6⟩
        by_cases hio : o = i
        · subst hio
          rw [List.getElem?_set_self ho] at hi
          injection hi with hi
          subst hi
          show arr.getD o undef = (n.setρ d (.slice none 0 0)).ρ d
          rw [hρ]
          exact q5 o _ hv
        · rw [List.getElem?_set_ne hio] at hi
          exact q5 i A hi
      · exact h1.box b' c h2
    boxInj := fun d1 c1 d2 c2 b' p1 p2 => by
      obtain ⟨x1, u1⟩ := hbx d1 c1 p1
      obtain ⟨x2, u2⟩ := hbx d2 c2 p2
      exact h.boxInj d1 x1 d2 x2 b' u1 u2
    boxOne := fun d1 c1 c2 p1 p2 => by
      obtain ⟨x1, h3, ⟨rfl, rfl⟩ | ⟨n1, rfl⟩⟩ := setBx_mem p1 <;> obtain ⟨x2, h4, ⟨k1, k2⟩ | ⟨n2, rfl⟩⟩ := setBx_mem p2
      · exact k2.symm
      · exact absurd rfl n2
      · exact absurd k1 n1
      · exact h.boxOne d1 x1 x2 h3 h4
    row := fun r e' k' xs' hr => by
      obtain ⟨q1, q2⟩ := h1.row r e' k' xs' (hh r e' k' xs' hr)
      exact ⟨q1, fun g hg => ⟨(q2 g hg).1, fun d' cs' hm' => by obtain ⟨c, h2⟩ := hbx d' cs' hm'; exact (q2 g hg).2 d' c h2⟩⟩
    rowInj := fun r e1 k1 xs1 r' e2 k2 xs2 g p1 p2 => h1.rowInj r e1 k1 xs1 r' e2 k2 xs2 g (hh _ _ _ _ p1) (hh _ _ _ _ p2)
    arr := fun d' A hm' => by
      rcases List.mem_cons.1 hm' with e1 | hm'
      · injection e1 with e1 e2
        subst e1 e2
        rw [hρ]
        exact ⟨World.ownsRow_nil w 0 e k, fun x hx => (by cases hx), fun g hg => (by cases hg)⟩
      · obtain ⟨q1, q2, q3⟩ := h1.arr d' A hm'
        exact ⟨q1, q2, fun g hg => ⟨(q3 g hg).1, (q3 g hg).2.1, fun d2 cs2 hm2 => (by obtain ⟨c, h2⟩ := hbx d2 cs2 hm2; exact (q3 g hg).2.2.1 d2 c h2), fun r e' k' xs' hr => (q3 g hg).2.2.2 r e' k' xs' (hh r e' k' xs' hr)⟩⟩
    arrInj := fun d1 A1 d2 A2 g p1 p2 q1 q2 => by
      rcases List.mem_cons.1 p1 with e1 | p1 <;> rcases List.mem_cons.1 p2 with e2 | p2
      · injection e1 with e1; injection e2 with e2; exact e1.trans e2.symm
      · injection e1 with e1 _; rw [e1, hρ] at q1; cases q1
      · injection e2 with e2 _; rw [e2, hρ] at q2; cases q2
      · exact h1.arrInj d1 A1 d2 A2 g p1 p2 q1 q2
    arrOne := fun d1 A1 A2 p1 p2 => by
      rcases List.mem_cons.1 p1 with e1 | p1 <;> rcases List.mem_cons.1 p2 with e2 | p2
      · injection e1 with _ e1; injection e2 with _ e2; exact e1.trans e2.symm
      · injection e1 with e1 _; exact absurd e1 (St.free_arr hf p2)
      · injection e2 with e2 _; exact absurd e2 (St.free_arr hf p1)
      · exact h.arrOne d1 A1 A2 p1 p2
    fix := h.fix }
theorem CT.mkarrB {QE : Exit → St → Prop} {c : Code} (b o d e k : Nat) {cs : List AV} {bs' : List (Nat × List AV)} (hb : getB bs b = some cs) (hv : cs[o]? = some (.val (.slice none 0 0))) (hf : St.free ⟨tm, bs, ar⟩ d = true) (hbs : setBx bs b (cs.set o (.arow d)) = bs') (h : CT P N K0 w0 c ⟨tm, bs', (d, ⟨e, k, []⟩) :: ar⟩ QE) : CT P N K0 w0 c ⟨tm, bs, ar⟩ QE := by
  subst hbs
  exact fun K n a w hs => h K _ a w (hs.nilBox (getB_mem hb) hv hf)
end
end Go.Proofs.Ytkfmammkbmhfaaa

/- Abstract walks: clear of a part of a row that is written in place. -/
namespace Go.Proofs.Ytkfmammkbmhfaaa
set_option linter.unusedSimpArgs false
set_option linter.unusedVariables false
open Go Go.RowKit Go.Shelf
section
variable {P : Program} {N : Nat} {K0 : Know} {w0 : Bas} {S S' : St} {K K' : Know} {n : Nm} {a : Act} {w w' : World} {Q : St → Prop}
variable {dO : Option Nat} {ty : TypeId} {pos : String} {aft : Array Edge} {g : Option (Nat × Bool)} {t e : TypeId} {x y : Operand} {tm : List (Nat × AV)} {bs : List (Nat × List AV)} {ar : List (Nat × Arr)} {dn : Nat}
/-! ### Rows that are lent to a call which reads them -/
open Classical in
noncomputable def Know.lent (K : Know) (n : Nm) (S : St) (w : World) : Know := fun b o => match K.boxed n S w b o with
  | some v => some v
  | none => if ∃ d A, (d, A) ∈ S.arrs ∧ (n.ρ d).ownBlock = some b then w.cell? ⟨b, o, none⟩ else none
theorem Know.lent_le {K : Know} {n : Nm} {w : World} : (K.boxed n S w).le (K.lent n S w) := fun b o v h => by unfold Know.lent; rw [h]
theorem Know.lent_ok {K : Know} {n : Nm} {w : World} (h : K.ok w) : (K.lent n S w).ok w := fun b o v hv => by
  unfold Know.lent at hv
  split at hv
  · rename_i u hu; injection hv with hv; subst hv; exact Know.boxed_ok h b o u hu
  · split at hv
    · exact hv
    · cases hv
theorem lent_row (hs : Sim N K0 w0 S K n a w) {d : Nat} {A : Arr} (hA : getA S.arrs d = some A) : Slice (K.lent n S w) A.k A.xs (n.ρ d) := by
  have hm := getA_mem hA
  obtain ⟨q1, q2, q3⟩ := hs.arr d A hm
  refine own_slice q1 (fun gb hg o u hu => ?_) (Arr.ok_len q2) (Arr.ok_one q2)
  have hc := q1.cells hg o u hu
  rw [Addr.add_mid, Nat.zero_add] at hc
  unfold Know.lent
  split
  · rename_i v hv
    have := Know.boxed_ok hs.ok gb o v hv
    rw [hc] at this
    exact this.symm
  · rw [if_pos ⟨d, A, hm, hg⟩]; exact hc
def AV.argL (S : St) : AV → AV
  | .arow d => match getA S.arrs d with
    | some A => .sl A.k A.xs
    | none => .dead
  | A => A.argB S
theorem AV.argL_rep (hs : Sim N K0 w0 S K n a w) {S1 : St} (hB : S.mem = S1.mem) {A : AV} {c : Value} (hr : Rep K n A c) : Rep1 (K.lent n S w) Nm.nil (A.argL S1) c := by
  have key : ∀ {A : AV}, Rep K n A c → Rep1 (K.lent n S w) Nm.nil (A.argB S1) c := fun {A} hr => Rep1.mono (((AV.argB_of S1 A).at (St.mem_boxes hB)).rep hs hr) Know.lent_le
  cases A with
  | arow d =>
    simp only [AV.argL]
    split
    · rename_i A hA
      rw [← St.mem_arrs hB] at hA
      have h := lent_row hs hA
      rw [show c = n.ρ d from hr]
      exact h
    · trivial
  | _ => exact key hr
theorem OpH.callL {f : FuncId} {fn : Func} {c : Code} {args : Array Operand} {ats : Array TypeId} {As : List AV} {v : Value} (hf : P.funcs[f]? = some fn) (hname : (fn.name == "runtime.NumGoroutine") = false) (hb : fn.body = some c)
    (hargs : (args.toList.map fun x => (S.opv x).argL S) = As) (hg : Good P f As (.val v)) : OpH P N K0 w0 ⟨dO, .call { callee := .value (.func f), args := args, argTypes := ats }, ty, pos, aft, g⟩ S (.val v) := by
  subst hargs
  intro S' K n a w hs hB hop
  refine upon_enter_calls (call_run hf hname hb a w) (hg (K.lent n S' w) w (args.toList.map a.eval) (Know.lent_ok hs.ok) (by simp) fun i A c hA hc => ?_) ?_
  · rw [List.getElem?_map, Option.map_eq_some_iff] at hc hA
    obtain ⟨x, hx, rfl⟩ := hc
    obtain ⟨x', hx', rfl⟩ := hA
    rw [hx] at hx'; injection hx' with hx'; subst hx'
    have h1 := hs.opv x
    rw [hop x (by simp only [Op.operands, Call.operands]; simp; right; simpa using List.mem_of_getElem? hx)] at h1
    exact AV.argL_rep hs hB h1
  · rintro e w' ⟨c, K', rfl, h1, h2, h3, h4, ρ, h5, _⟩
    exact ⟨c, rfl, c, K, rfl, h1, Know.le_refl K, Know.below hs.ok h1, fun _ _ _ h _ => h, h5, fun r e k xs hr => absurd hr (AV.plain_row rfl r e k xs)⟩
end
end Go.Proofs.Ytkfmammkbmhfaaa

/- Abstract walks: drawn regions whose head makes boxes. -/
namespace Go.Proofs.Ytkfmammkbmhfaaa
set_option linter.unusedSimpArgs false
set_option linter.unusedVariables false
open Go Go.RowKit Go.Shelf
section
variable {P : Program} {N : Nat} {K0 : Know} {w0 : Bas} {S : St} {ops : Array Oper}
def AllocOp (P : Program) (o : Oper) (d : Nat) (cs : List AV) : Prop := ∃ (e : TypeId) (z : Value) (ty : TypeId) (pos : String) (aft : Array Edge), o = ⟨some d, .alloc e, ty, pos, aft, none⟩ ∧ ((P.info? e).bind (·.zero)) = some z ∧ z.cells.toList.map AV.val = cs
structure HInvA (al : Nat → Option (Nat × List AV)) (ops : Array Oper) (n : Nat) (S : St) (vs : List AV) (listed : Array Bool) (T : St) : Prop where
  arrs : T.arrs = S.arrs
  got : ∀ j t v, j < n → listed.getD j true = true → dstAt ops j = some t → vs[j]? = some v → T.get t = v
  no : ∀ t, (∀ j, j < n → listed.getD j true = true → dstAt ops j ≠ some t) → T.get t = S.get t
  box1 : ∀ p ∈ S.boxes, p ∈ T.boxes
  box2 : ∀ j p, j < n → listed.getD j true = true → al j = some p → p ∈ T.boxes
  box3 : ∀ p ∈ T.boxes, p ∈ S.boxes ∨ ∃ j, j < n ∧ listed.getD j true = true ∧ al j = some p
  fr : ∀ j d cs, j < n → listed.getD j true = false → al j = some (d, cs) → T.free d = true ∧ T.boxes.all (fun p => !(Nat.beq p.1 d)) = true
def HA (P : Program) (N : Nat) (K0 : Know) (w0 : Bas) (ops : Array Oper) : List Oper → St → List (Nat × List AV) → List AV → List (Option (Nat × List AV)) → (List AV → List (Option (Nat × List AV)) → St → Prop) → Prop
  | [], S, nb, vs, al, Q => Q vs al ⟨S.tmps, nb ++ S.boxes, S.arrs⟩
  | o :: l, S, nb, vs, al, Q => (∃ v, HOk P N K0 w0 ops o S v ∧ HA P N K0 w0 ops l (S.putO o.dst v) nb (vs ++ [v]) (al ++ [none]) Q) ∨
      ∃ d cs, AllocOp P o d cs ∧ d < N ∧ HA P N K0 w0 ops l (S.putO o.dst (.ptr d 0)) ((d, cs) :: nb) (vs ++ [.ptr d 0]) (al ++ [some (d, cs)]) Q
theorem HA.elim : ∀ {l : List Oper} {S : St} {nb : List (Nat × List AV)} {vs0 : List AV} {al0 : List (Option (Nat × List AV))} {Q : List AV → List (Option (Nat × List AV)) → St → Prop}, HA P N K0 w0 ops l S nb vs0 al0 Q → ∃ (vs : List AV) (al : List (Option (Nat × List AV))), vs.length = l.length ∧ al.length = l.length ∧
    (∀ (i : Nat) o v q, l[i]? = some o → vs[i]? = some v → al[i]? = some q → (q = none ∧ HOk P N K0 w0 ops o (foldS S (l.take i) (vs.take i)) v) ∨ ∃ d cs, q = some (d, cs) ∧ AllocOp P o d cs ∧ d < N ∧ v = .ptr d 0) ∧
    Q (vs0 ++ vs) (al0 ++ al) ⟨(foldS S l vs).tmps, ((al.filterMap id).reverse ++ nb) ++ S.boxes, S.arrs⟩
  | [], S, nb, vs0, al0, Q, h => ⟨[], [], rfl, rfl, fun i o v q h => by simp at h, by simpa [HA, foldS] using h⟩
  | o :: l, S, nb, vs0, al0, Q, h => by
    have hm : ∀ A, (S.putO o.dst A).boxes = S.boxes ∧ (S.putO o.dst A).arrs = S.arrs := fun A => by cases o.dst <;> exact ⟨rfl, rfl⟩
    rcases h with ⟨v, h1, h2⟩ | ⟨d, cs, h1, hd, h2⟩
    · obtain ⟨vs, al, h3, h4, h5, h6⟩ := HA.elim h2
      refine ⟨v :: vs, none :: al, by simp [h3], by simp [h4], fun i o' v' q ho hv hq => ?_, ?_⟩
      · cases i with
        | zero => simp at ho hv hq; subst ho hv hq; exact .inl ⟨rfl, h1⟩
        | succ i => exact h5 i o' v' q (by simpa using ho) (by simpa using hv) (by simpa using hq)
      · rw [(hm v).1, (hm v).2] at h6
        simpa [foldS] using h6
    · obtain ⟨vs, al, h3, h4, h5, h6⟩ := HA.elim h2
      refine ⟨.ptr d 0 :: vs, some (d, cs) :: al, by simp [h3], by simp [h4], fun i o' v' q ho hv hq => ?_, ?_⟩
      · cases i with
        | zero => simp at ho hv hq; subst ho hv hq; exact .inr ⟨d, cs, rfl, h1, hd, rfl⟩
        | succ i => exact h5 i o' v' q (by simpa using ho) (by simpa using hv) (by simpa using hq)
      · rw [(hm _).1, (hm _).2] at h6
        simpa [foldS] using h6
/-! ### Steps of the head -/
section
variable {l : List Oper} {d : Option Nat} {opn : Op} {ty : TypeId} {pos : String} {aft : Array Edge} {nb : List (Nat × List AV)} {vs : List AV} {al : List (Option (Nat × List AV))} {Q : List AV → List (Option (Nat × List AV)) → St → Prop} {tm : List (Nat × AV)} {bs : List (Nat × List AV)} {ar : List (Nat × Arr)}
theorem HA.box {e : TypeId} {t : Nat} {z : Value} {cs : List AV} (hz : ((P.info? e).bind (·.zero)) = some z) (hcs : z.cells.toList.map AV.val = cs) (hd : t < N) (k : HA P N K0 w0 ops l ⟨(t, .ptr t 0) :: tm, bs, ar⟩ ((t, cs) :: nb) (vs ++ [.ptr t 0]) (al ++ [some (t, cs)]) Q) :
    HA P N K0 w0 ops (⟨some t, .alloc e, ty, pos, aft, none⟩ :: l) ⟨tm, bs, ar⟩ nb vs al Q :=
  .inr ⟨t, cs, ⟨e, z, ty, pos, aft, rfl, hz, hcs⟩, hd, k⟩
theorem HA.done (h : Q vs al ⟨tm, nb ++ bs, ar⟩) : HA P N K0 w0 ops [] ⟨tm, bs, ar⟩ nb vs al Q := h
end
end
end Go.Proofs.Ytkfmammkbmhfaaa

/- Abstract walks: jumps back to a label. -/
namespace Go.Proofs.Ytkfmammkbmhfaaa
set_option linter.unusedSimpArgs false
set_option linter.unusedVariables false
open Go Go.RowKit Go.Shelf
section
variable {P : Program} {N : Nat} {K0 : Know} {w0 : Bas} {S : St} {QE : Exit → St → Prop} {α : Type}
open Classical in
end
end Go.Proofs.Ytkfmammkbmhfaaa

/- Abstract walks: drawn regions whose head makes boxes and fills them. -/
namespace Go.Proofs.Ytkfmammkbmhfaaa
set_option linter.unusedSimpArgs false
set_option linter.unusedVariables false
open Go Go.RowKit Go.Shelf
inductive HI
  | val | box (d : Nat) (cs : List AV) | put (d : Nat) (cs : List AV)
section
variable {P : Program} {N : Nat} {K0 : Know} {w0 : Bas} {S : St} {ops : Array Oper}
def PutOp (P : Program) (o : Oper) (S : St) (d : Nat) (cs0 cs1 : List AV) : Prop := ∃ (t : TypeId) (y : Operand) (v : Value) (ty : TypeId) (pos : String) (aft : Array Edge), o = ⟨none, .store t (.tmp d) y, ty, pos, aft, none⟩ ∧ S.opv (.tmp d) = .ptr d 0 ∧ S.opv y = .val v ∧
  (P.info? t).map (·.size) = some v.cells.size ∧ v.cells.all (·.oneCell') = true ∧ v.cells.size = cs0.length ∧ v.cells.toList.map AV.val = cs1
structure HInvS (its : Nat → HI) (ops : Array Oper) (n : Nat) (S : St) (vs : List AV) (listed : Array Bool) (T : St) : Prop where
  arrs : T.arrs = S.arrs
  got : ∀ j t v, j < n → listed.getD j true = true → dstAt ops j = some t → vs[j]? = some v → T.get t = v
  no : ∀ t, (∀ j, j < n → listed.getD j true = true → dstAt ops j ≠ some t) → T.get t = S.get t
  box1 : ∀ p ∈ S.boxes, p ∈ T.boxes
  box3 : ∀ d cs, (d, cs) ∈ T.boxes → (d, cs) ∈ S.boxes ∨ ∃ j cs0, j < n ∧ listed.getD j true = true ∧ its j = .box d cs0
  own0 : ∀ j d cs0, j < n → listed.getD j true = true → its j = .box d cs0 → (∀ i cs1, i < n → listed.getD i true = true → its i ≠ .put d cs1) → (d, cs0) ∈ T.boxes
  own1 : ∀ i d cs1, i < n → listed.getD i true = true → its i = .put d cs1 → (d, cs1) ∈ T.boxes
  fr : ∀ j d cs, j < n → listed.getD j true = false → its j = .box d cs → T.free d = true ∧ T.boxes.all (fun p => !(Nat.beq p.1 d)) = true
def putOf : List HI → Nat → List AV → List AV
  | [], _, c => c
  | .put d' c' :: l, d, c => cond (Nat.beq d' d) c' (putOf l d c)
  | .val :: l, d, c => putOf l d c
  | .box _ _ :: l, d, c => putOf l d c
def HI.fin (its : List HI) : HI → Option (Nat × List AV)
  | .box d cs0 => some (d, putOf its d cs0)
  | _ => none
def finB (its : List HI) : List (Nat × List AV) := its.filterMap (HI.fin its)
def HS (P : Program) (N : Nat) (K0 : Know) (w0 : Bas) (ops : Array Oper) : List Oper → St → List AV → List HI → (List AV → List HI → St → Prop) → Prop
  | [], S, vs, its, Q => Q vs its ⟨S.tmps, finB its ++ S.boxes, S.arrs⟩
  | o :: l, S, vs, its, Q => (∃ v, HOk P N K0 w0 ops o S v ∧ HS P N K0 w0 ops l (S.putO o.dst v) (vs ++ [v]) (its ++ [.val]) Q) ∨
      (∃ d cs, AllocOp P o d cs ∧ d < N ∧ HS P N K0 w0 ops l (S.putO o.dst (.ptr d 0)) (vs ++ [.ptr d 0]) (its ++ [.box d cs]) Q) ∨
      ∃ (d : Nat) (cs0 cs1 : List AV) (j : Nat), its[j]? = some (HI.box d cs0) ∧ PutOp P o S d cs0 cs1 ∧ HS P N K0 w0 ops l (S.putO o.dst .dead) (vs ++ [.dead]) (its ++ [.put d cs1]) Q
theorem HS.elim : ∀ {l : List Oper} {S : St} {vs0 : List AV} {its0 : List HI} {Q : List AV → List HI → St → Prop}, HS P N K0 w0 ops l S vs0 its0 Q → ∃ (vs : List AV) (its : List HI), vs.length = l.length ∧ its.length = l.length ∧
    (∀ (i : Nat) o v q, l[i]? = some o → vs[i]? = some v → its[i]? = some q → (q = .val ∧ HOk P N K0 w0 ops o (foldS S (l.take i) (vs.take i)) v) ∨ (∃ d cs, q = .box d cs ∧ AllocOp P o d cs ∧ d < N ∧ v = .ptr d 0) ∨
      ∃ (d : Nat) (cs0 cs1 : List AV) (j : Nat), q = .put d cs1 ∧ j < its0.length + i ∧ (its0 ++ its)[j]? = some (HI.box d cs0) ∧ PutOp P o (foldS S (l.take i) (vs.take i)) d cs0 cs1) ∧
    Q (vs0 ++ vs) (its0 ++ its) ⟨(foldS S l vs).tmps, finB (its0 ++ its) ++ S.boxes, S.arrs⟩
  | [], S, vs0, its0, Q, h => ⟨[], [], rfl, rfl, fun i o v q h => by simp at h, by simpa [HS, foldS] using h⟩
  | o :: l, S, vs0, its0, Q, h => by
    have hm : ∀ A, (S.putO o.dst A).boxes = S.boxes ∧ (S.putO o.dst A).arrs = S.arrs := fun A => by cases o.dst <;> exact ⟨rfl, rfl⟩
    have go : ∀ (v : AV) (q : HI), ((q = .val ∧ HOk P N K0 w0 ops o S v) ∨ (∃ d cs, q = .box d cs ∧ AllocOp P o d cs ∧ d < N ∧ v = .ptr d 0) ∨ ∃ (d : Nat) (cs0 cs1 : List AV) (j : Nat), q = .put d cs1 ∧ its0[j]? = some (HI.box d cs0) ∧ PutOp P o S d cs0 cs1) →
        HS P N K0 w0 ops l (S.putO o.dst v) (vs0 ++ [v]) (its0 ++ [q]) Q → ∃ (vs : List AV) (its : List HI), vs.length = (o :: l).length ∧ its.length = (o :: l).length ∧
        (∀ (i : Nat) o' v q, (o :: l)[i]? = some o' → vs[i]? = some v → its[i]? = some q → (q = .val ∧ HOk P N K0 w0 ops o' (foldS S ((o :: l).take i) (vs.take i)) v) ∨ (∃ d cs, q = .box d cs ∧ AllocOp P o' d cs ∧ d < N ∧ v = .ptr d 0) ∨
          ∃ (d : Nat) (cs0 cs1 : List AV) (j : Nat), q = .put d cs1 ∧ j < its0.length + i ∧ (its0 ++ its)[j]? = some (HI.box d cs0) ∧ PutOp P o' (foldS S ((o :: l).take i) (vs.take i)) d cs0 cs1) ∧
        Q (vs0 ++ vs) (its0 ++ its) ⟨(foldS S (o :: l) vs).tmps, finB (its0 ++ its) ++ S.boxes, S.arrs⟩ := fun v q h1 h2 => by
      obtain ⟨vs, its, h3, h4, h5, h6⟩ := HS.elim h2
      refine ⟨v :: vs, q :: its, by simp [h3], by simp [h4], fun i o' v' q' ho hv hq => ?_, ?_⟩
      · cases i with
        | zero =>
          simp at ho hv hq
          subst ho hv hq
          rcases h1 with h1 | h1 | ⟨d, cs0, cs1, j, e1, e2, e3⟩
          · exact .inl h1
          · exact .inr (.inl h1)
          · refine .inr (.inr ⟨d, cs0, cs1, j, e1, (List.getElem?_eq_some_iff.1 e2).1, ?_, e3⟩)
            rw [List.getElem?_append_left (List.getElem?_eq_some_iff.1 e2).1]; exact e2
        | succ i =>
          rcases h5 i o' v' q' (by simpa using ho) (by simpa using hv) (by simpa using hq) with h | h | ⟨d, cs0, cs1, j, e1, e2, e3, e4⟩
          · exact .inl h
          · exact .inr (.inl h)
          · exact .inr (.inr ⟨d, cs0, cs1, j, e1, by simp at e2; omega, by simpa using e3, e4⟩)
      · rw [(hm v).1, (hm v).2] at h6
        simpa [foldS] using h6
    rcases h with ⟨v, h1, h2⟩ | ⟨d, cs, h1, hd, h2⟩ | ⟨d, cs0, cs1, j, h1, h2, h3⟩
    · exact go v .val (.inl ⟨rfl, h1⟩) h2
    · exact go _ _ (.inr (.inl ⟨d, cs, rfl, h1, hd, rfl⟩)) h2
    · exact go _ _ (.inr (.inr ⟨d, cs0, cs1, j, rfl, h1, h2⟩)) h3
section
variable {l : List Oper} {opn : Op} {ty : TypeId} {pos : String} {aft : Array Edge} {vs : List AV} {its : List HI} {Q : List AV → List HI → St → Prop} {tm : List (Nat × AV)} {bs : List (Nat × List AV)} {ar : List (Nat × Arr)}
theorem HS.box {e : TypeId} {t : Nat} {z : Value} {cs : List AV} (hz : ((P.info? e).bind (·.zero)) = some z) (hcs : z.cells.toList.map AV.val = cs) (hd : t < N) (k : HS P N K0 w0 ops l ⟨(t, .ptr t 0) :: tm, bs, ar⟩ (vs ++ [.ptr t 0]) (its ++ [.box t cs]) Q) :
    HS P N K0 w0 ops (⟨some t, .alloc e, ty, pos, aft, none⟩ :: l) ⟨tm, bs, ar⟩ vs its Q :=
  .inr (.inl ⟨t, cs, ⟨e, z, ty, pos, aft, rfl, hz, hcs⟩, hd, k⟩)
theorem HS.put {t : TypeId} {d : Nat} {y : Operand} {v : Value} {cs0 cs1 : List AV} (j : Nat) (hj : its[j]? = some (.box d cs0)) (hx : St.opv ⟨tm, bs, ar⟩ (.tmp d) = .ptr d 0) (hy : St.opv ⟨tm, bs, ar⟩ y = .val v) (hk : (P.info? t).map (·.size) = some v.cells.size) (ho1 : v.cells.all (·.oneCell') = true) (hsz : v.cells.size = cs0.length) (hcs : v.cells.toList.map AV.val = cs1)
    (k : HS P N K0 w0 ops l ⟨tm, bs, ar⟩ (vs ++ [.dead]) (its ++ [.put d cs1]) Q) : HS P N K0 w0 ops (⟨none, .store t (.tmp d) y, ty, pos, aft, none⟩ :: l) ⟨tm, bs, ar⟩ vs its Q :=
  .inr (.inr ⟨d, cs0, cs1, j, hj, ⟨t, y, v, ty, pos, aft, rfl, hx, hy, hk, ho1, hsz, hcs⟩, k⟩)
theorem HS.done (h : Q vs its ⟨tm, finB its ++ bs, ar⟩) : HS P N K0 w0 ops [] ⟨tm, bs, ar⟩ vs its Q := h
end
end
end Go.Proofs.Ytkfmammkbmhfaaa

/- Abstract walks: drawn regions in whose head a call gives a row of the call's own. -/
namespace Go.Proofs.Ytkfmammkbmhfaaa
set_option linter.unusedSimpArgs false
set_option linter.unusedVariables false
open Go Go.RowKit Go.Shelf
section
variable {P : Program} {N : Nat} {K0 : Know} {w0 : Bas} {S : St} {ops : Array Oper}
def RowOp (P : Program) (N : Nat) (K0 : Know) (w0 : Bas) (o : Oper) (S : St) (v : AV) : Prop :=
  ∃ (d e k : Nat) (xs : Cells), v = .row d e k xs ∧ o.dst = some d ∧ d < N ∧ ∀ T : St, T.mem = S.mem → (∀ x ∈ o.op.operands.toList, T.opv x = S.opv x) → T.free d = true → OpT P N K0 w0 o T fun S' => S' = T.put d v
def HOkR (P : Program) (N : Nat) (K0 : Know) (w0 : Bas) (ops : Array Oper) (o : Oper) (S : St) (v : AV) (r : Bool) : Prop :=
  (r = false ∧ HOk P N K0 w0 ops o S v) ∨ (r = true ∧ GuardIs ops o S true ∧ RowOp P N K0 w0 o S v)
structure HInvR (rs : Nat → Bool) (ops : Array Oper) (n : Nat) (S : St) (vs : List AV) (listed : Array Bool) (T : St) : Prop where
  mem : T.mem = S.mem
  got : ∀ j t v, j < n → listed.getD j true = true → dstAt ops j = some t → vs[j]? = some v → T.get t = v
  no : ∀ t, (∀ j, j < n → listed.getD j true = true → dstAt ops j ≠ some t) → T.get t = S.get t
  fr : ∀ j d, j < n → listed.getD j true = false → rs j = true → dstAt ops j = some d → T.free d = true
def HR (P : Program) (N : Nat) (K0 : Know) (w0 : Bas) (ops : Array Oper) : List Oper → St → List AV → List Bool → (List AV → List Bool → St → Prop) → Prop
  | [], S, vs, rs, Q => Q vs rs S
  | o :: l, S, vs, rs, Q => ∃ v r, HOkR P N K0 w0 ops o S v r ∧ HR P N K0 w0 ops l (S.putO o.dst v) (vs ++ [v]) (rs ++ [r]) Q
theorem HR.elim : ∀ {l : List Oper} {S : St} {vs0 : List AV} {rs0 : List Bool} {Q : List AV → List Bool → St → Prop}, HR P N K0 w0 ops l S vs0 rs0 Q → ∃ (vs : List AV) (rs : List Bool), vs.length = l.length ∧ rs.length = l.length ∧
    (∀ (i : Nat) o v r, l[i]? = some o → vs[i]? = some v → rs[i]? = some r → HOkR P N K0 w0 ops o (foldS S (l.take i) (vs.take i)) v r) ∧ Q (vs0 ++ vs) (rs0 ++ rs) (foldS S l vs)
  | [], S, vs0, rs0, Q, h => ⟨[], [], rfl, rfl, fun i o v r h => by simp at h, by simpa [HR, foldS] using h⟩
  | o :: l, S, vs0, rs0, Q, ⟨v, r, h1, h2⟩ => by
    obtain ⟨vs, rs, h3, h3', h4, h5⟩ := HR.elim h2
    refine ⟨v :: vs, r :: rs, by simp [h3], by simp [h3'], fun i o' v' r' ho hv hr => ?_, by simpa [foldS] using h5⟩
    cases i with
    | zero => simp at ho hv hr; subst ho hv hr; exact h1
    | succ i => exact h4 i o' v' r' (by simpa using ho) (by simpa using hv) (by simpa using hr)
def chainW (ops : Array Oper) (n : Nat) : Bool :=
  (List.range ops.size).all fun t => decide (t ≤ n) || (List.range t).any fun j => decide (n ≤ j) && Region.waitsFor .any ops t j
theorem tail_seq {Q : St → Prop} {l : List Oper} {n : Nat} (hn : n < l.length) (hseq : Region.seqB .any l.toArray (l.toArray.size - n) n (canon l.toArray.size n) = true) {S : St} {K : Know} {nm : Nm} {a : Act} {w : World} (h : LT P N K0 w0 l.toArray (l.drop n) S Q) (hs : Sim N K0 w0 S K nm a w) :
    wpAny P .any l.toArray (fun e a' w' => e = .normal ∧ ∃ K' n' S', Q S' ∧ Sim N K0 w0 S' K' n' a' w') (l.toArray.size - n) (canon l.toArray.size n) a w := by
  have hdl : (l.drop n).length = l.toArray.size - n := by simp
  have := wpAny_of_seq (md := .any) (ops := l.toArray) (P := P) (l.drop n) n (canon l.toArray.size n) a w (Q' := fun e a' w' => e = .normal ∧ ∃ K' n' S', Q S' ∧ Sim N K0 w0 S' K' n' a' w') (fun j => by simp [List.getElem?_drop]) (by rw [hdl]; exact hseq) (h K nm a w hs)
  rwa [hdl] at this
theorem HOk.congr {S S' : St} {o : Oper} {v : AV} (hg : ∀ t, S'.get t = S.get t) (hm : S'.mem = S.mem) (h : HOk P N K0 w0 ops o S v) : HOk P N K0 w0 ops o S' v := by
  have hop : ∀ x, S'.opv x = S.opv x := fun x => by cases x <;> first | exact hg _ | rfl
  have hgd : ∀ b, GuardIs ops o S b → GuardIs ops o S' b := fun b hb => by
    unfold GuardIs at *
    cases hgg : o.guard with
    | none => rw [hgg] at hb; exact hb
    | some p =>
      obtain ⟨g', want⟩ := p
      rw [hgg] at hb
      obtain ⟨dg, h1, h2⟩ := hb
      exact ⟨dg, h1, by rw [hg]; exact h2⟩
  rcases h with ⟨h1, h2⟩ | ⟨h1, h2⟩
  · exact .inl ⟨hgd _ h1, fun T K n a w hs hT hopT => h2 T K n a w hs (hT.trans hm) fun x hx => (hopT x hx).trans (hop x)⟩
  · exact .inr ⟨hgd _ h1, h2⟩
theorem foldS_congr : ∀ (l : List Oper) (vs : List AV) (S S' : St), (∀ t, S'.get t = S.get t) → S'.mem = S.mem → (∀ t, (foldS S' l vs).get t = (foldS S l vs).get t) ∧ (foldS S' l vs).mem = (foldS S l vs).mem
  | [], _, S, S', h1, h2 => ⟨h1, h2⟩
  | _ :: _, [], S, S', h1, h2 => ⟨h1, h2⟩
  | o :: l, v :: vs, S, S', h1, h2 => by
    rw [foldS, foldS]
    refine foldS_congr l vs _ _ (fun t => ?_) ?_
    · cases o.dst with
      | none => exact h1 t
      | some d => simp only [St.putO]; rw [St.get_put, St.get_put]; split; rfl; exact h1 t
    · cases o.dst <;> exact h2
theorem foldS_self : ∀ (l : List Oper) (S S0 : St), (∀ t, S.get t = S0.get t) → S.mem = S0.mem → (∀ t, (foldS S l (l.map fun o => match o.dst with | some d => S0.get d | none => .dead)).get t = S0.get t) ∧ (foldS S l (l.map fun o => match o.dst with | some d => S0.get d | none => .dead)).mem = S0.mem
  | [], S, S0, h1, h2 => ⟨h1, h2⟩
  | o :: l, S, S0, h1, h2 => by
    simp only [List.map_cons]
    rw [foldS]
    refine foldS_self l _ S0 (fun t => ?_) ?_
    · cases hd : o.dst with
      | none => exact h1 t
      | some d =>
        simp only [St.putO]
        rw [St.get_put]
        split
        · rename_i e; rw [e]
        · exact h1 t
    · cases o.dst <;> exact h2
theorem foldS_app : ∀ (l1 l2 : List Oper) (v1 v2 : List AV) (S : St), v1.length = l1.length → foldS S (l1 ++ l2) (v1 ++ v2) = foldS (foldS S l1 v1) l2 v2
  | [], l2, [], v2, S, _ => rfl
  | [], _, _ :: _, _, _, h => by simp at h
  | _ :: _, _, [], _, _, h => by simp at h
  | o :: l1, l2, v :: v1, v2, S, h => by
    simp only [List.cons_append]
    rw [foldS, foldS]
    exact foldS_app l1 l2 v1 v2 _ (by simpa using h)
theorem canon_set (M n : Nat) : (canon M n).setIfInBounds n true = canon M (n + 1) := by
  apply Array.ext_getElem?
  intro i
  rw [Array.getElem?_setIfInBounds]
  unfold canon
  by_cases c : i < M
  · by_cases e : n = i
    · subst e
      simp [c]
    · rw [if_neg e]
      simp [c]
      omega
  · by_cases e : n = i
    · subst e
      simp [c]
    · rw [if_neg e]
      simp [c]
section
variable {l : List Oper} {opn : Op} {ty : TypeId} {pos : String} {aft : Array Edge} {gd : Option (Nat × Bool)} {vs : List AV} {rs : List Bool} {Q : List AV → List Bool → St → Prop} {tm : List (Nat × AV)} {bs : List (Nat × List AV)} {ar : List (Nat × Arr)}
theorem RowOp.call {f : FuncId} {fn : Func} {c : Code} {args : Array Operand} {ats : Array TypeId} {As : List AV} {d e k r : Nat} {xs : Cells} {g : Option (Nat × Bool)} (hf : P.funcs[f]? = some fn) (hname : (fn.name == "runtime.NumGoroutine") = false) (hb : fn.body = some c)
    (hargs : (args.toList.map fun x => (S.opv x).arg) = As) (hg : Good P f As (.row r e k xs)) (hd : d < N) : RowOp P N K0 w0 ⟨some d, .call { callee := .value (.func f), args := args, argTypes := ats }, ty, pos, aft, g⟩ S (.row d e k xs) := by
  refine ⟨d, e, k, xs, rfl, rfl, hd, fun T hm hop hfr => ?_⟩
  refine OpT.callRow (As := As) hf hname hb ?_ hg hd hfr rfl
  have : (args.toList.map fun x => (T.opv x).arg) = As := by
    rw [← hargs]
    refine List.map_congr_left fun x hx => ?_
    rw [hop x (by simp only [Op.operands, Call.operands]; simp; right; simpa using hx)]
  subst this
  exact Args.of_map _
theorem HR.done (h : Q vs rs ⟨tm, bs, ar⟩) : HR P N K0 w0 ops [] ⟨tm, bs, ar⟩ vs rs Q := h
end
end
end Go.Proofs.Ytkfmammkbmhfaaa

/- Abstract walks: pointers at objects; objects that are lent; names changed. -/
namespace Go.Proofs.Ytkfmammkbmhfaaa
set_option linter.unusedSimpArgs false
set_option linter.unusedVariables false
open Go Go.RowKit Go.Shelf
def PAt (cs : List AV) (o : Nat) (K : Know) (c : Value) : Prop := ∃ b, c = Value.pointer (some ⟨b, o, none⟩) ∧ ∀ j A, cs[j]? = some A → ∃ u, K b j = some u ∧ Rep1 K Nm.nil A u
theorem PAt.mono {cs : List AV} {o : Nat} {K K' : Know} {c : Value} (h : PAt cs o K c) (hK : K.le K') : PAt cs o K' c := by
  obtain ⟨b, e, h2⟩ := h
  exact ⟨b, e, fun j A hj => by obtain ⟨u, h3, h4⟩ := h2 j A hj; exact ⟨u, hK _ _ _ h3, h4.mono hK⟩⟩
section
variable {P : Program} {N : Nat} {K0 : Know} {w0 : Bas} {S S' : St} {K K' : Know} {n : Nm} {a : Act} {w w' : World} {Q : St → Prop}
variable {d dO : Option Nat} {ty : TypeId} {pos : String} {aft : Array Edge} {g : Option (Nat × Bool)} {t e : TypeId} {x y : Operand} {tm : List (Nat × AV)} {bs : List (Nat × List AV)} {ar : List (Nat × Arr)} {dn : Nat}
theorem OpH.fieldT {s : TypeId} {f off o : Nat} {cs : List AV} {v : AV} (h1 : S.opv x = .pr (PAt cs o)) (hf : fieldOff P s f = some off) (hv : .pr (PAt cs (o + off)) = v) : OpH P N K0 w0 ⟨d, .fieldAddr s x f, ty, pos, aft, g⟩ S v := by
  subst hv
  refine OpH.ret (fun S' K n a w hs _ hop => ?_) (no_row (by intros; intro h; cases h) (by intros; intro h; cases h))
  have e1 := hs.opv x
  rw [hop x (by simp [Op.operands]), h1] at e1
  obtain ⟨b, e2, h2⟩ := e1 K (Know.le_refl K)
  refine ⟨.pointer (some ⟨b, o + off, none⟩), ?_, fun K' hK => PAt.mono ⟨b, rfl, h2⟩ hK⟩
  simp only [execOp]
  rw [e2, Sem.run_bind, run_fieldOff hf]
  rfl
theorem OpH.loadT {o : Nat} {cs : List AV} {v : AV} (h1 : S.opv x = .pr (PAt cs o)) (hk : oneSize P t = true) (hcs : cs[o]? = some v) (hp : v.plain1 = true) : OpH P N K0 w0 ⟨d, .load t x, ty, pos, aft, g⟩ S v := by
  refine OpH.ret (fun S' K n a w hs _ hop => ?_) (fun r e k xs h => absurd h (AV.plain_row (by cases v <;> first | exact hp | cases hp) r e k xs))
  have e1 := hs.opv x
  rw [hop x (by simp [Op.operands]), h1] at e1
  obtain ⟨b, e2, h2⟩ := e1 K (Know.le_refl K)
  obtain ⟨u, h3, h4⟩ := h2 o v hcs
  refine ⟨u, ?_, Rep.of1 (h4.plain hp)⟩
  simp only [execOp]
  rw [e2, Sem.run_bind, run_load_one hk (v := u) (hs.ok _ _ _ h3)]
  rfl
theorem OpH.nilB {b o : Nat} (h1 : S.opv x = .ptr b o) : OpH P N K0 w0 ⟨d, .nilCheck x, ty, pos, aft, g⟩ S (.ptr b o) := by
  refine OpH.ret (fun S' K n a w hs _ hop => ?_) (no_row (by intros; intro h; cases h) (by intros; intro h; cases h))
  have e1 := hs.opv x
  rw [hop x (by simp [Op.operands]), h1] at e1
  obtain ⟨b', hb, e2⟩ := e1
  refine ⟨_, ?_, ⟨b', hb, rfl⟩⟩
  simp only [execOp]
  rw [e2]
  rfl
theorem OpH.nilT {o : Nat} {cs : List AV} (h1 : S.opv x = .pr (PAt cs o)) : OpH P N K0 w0 ⟨d, .nilCheck x, ty, pos, aft, g⟩ S (.pr (PAt cs o)) := by
  refine OpH.ret (fun S' K n a w hs _ hop => ?_) (no_row (by intros; intro h; cases h) (by intros; intro h; cases h))
  have e1 := hs.opv x
  rw [hop x (by simp [Op.operands]), h1] at e1
  obtain ⟨b, e2, h2⟩ := e1 K (Know.le_refl K)
  refine ⟨_, ?_, fun K' hK => PAt.mono ⟨b, rfl, h2⟩ hK⟩
  simp only [execOp]
  rw [e2]
  rfl
def ptrTo (P : Program) (t : TypeId) : Bool := match P.underlying t with | some (.pointer _) => true | _ => false
theorem ptrTo_spec {t : TypeId} (h : ptrTo P t = true) : P.underlying t = some (.pointer (P.pointee t)) := by
  unfold ptrTo at h
  split at h
  · rename_i e he; rw [he]; simp [Program.pointee, he]
  · cases h
theorem OpH.eqNilB {b o : Nat} {yt : TypeId} (h1 : S.opv x = .ptr b o) (hu : ptrTo P t = true) : OpH P N K0 w0 ⟨d, .binOp .eql t x (.const (.pointer none)) yt, ty, pos, aft, g⟩ S (.val (.bool false)) := by
  refine OpH.ret (fun S' K n a w hs _ hop => ?_) no_row_val
  have e1 := hs.opv x
  rw [hop x (by simp [Op.operands]), h1] at e1
  obtain ⟨b', hb, e2⟩ := e1
  refine ⟨_, ?_, rfl⟩
  simp only [execOp]
  have hpb : (do eqGuard .eql t x (.const (.pointer none)) (.pointer (some ⟨b', o, none⟩)) (.pointer none); binOp .eql t (.pointer (some ⟨b', o, none⟩)) (.pointer none) : Sem Value).run P w = .ok (.bool false) w := by
    have e3 : (eqGuard .eql t x (.const (.pointer none)) (.pointer (some ⟨b', o, none⟩)) (.pointer none)).run P w = .ok () w := by simp [eqGuard]
    rw [Sem.run_bind, e3]
    exact run_eql_pointer_nil w t _ (ptrTo_spec hu)
  rw [e2, Sem.run_bind, show a.eval (.const (.pointer none)) = .pointer none from rfl, hpb]
  rfl
theorem pb_eqlNil {t : TypeId} {x y : Operand} (hu : ptrTo P t = true) : PB P .eql t x y (.pointer none) (.pointer none) (.bool true) := fun w => by
  rw [Sem.run_bind]
  have e3 : (eqGuard .eql t x y (.pointer none) (.pointer none)).run P w = .ok () w := by simp [eqGuard]
  rw [e3]
  exact run_eql_pointer_nil w t _ (ptrTo_spec hu)
/-! ### An object with a row, built and boxed -/
theorem LT.buildBox {ops : Array Oper} {l : List Oper} {d1 d2 i j q : Nat} {t e ty1 ty2 : TypeId} {pos1 pos2 : String} {aft1 aft2 : Array Edge} {x y : Operand} {v : Value} {A : Arr} (vs1 vs2 : List Value) (h1 : St.opv ⟨tm, bs, ar⟩ x = .val v) (h2 : St.opv ⟨tm, bs, ar⟩ y = .arow q) (hA : getA ar q = some A)
    (hb : ∀ B l cap, P.built t [(i, v), (j, .slice B l cap)] = some (vs1 ++ .slice B l cap :: vs2).toArray) (hd1 : d1 < N) (hd2 : d2 < N) {cs : List AV} (hcs : vs1.map AV.val ++ .arow q :: vs2.map AV.val = cs) (hne : q ≠ d2) (hf : St.free ⟨(d1, .dead) :: tm, bs, ar⟩ d2 = true) (hnb : bs.all (fun p => !(Nat.beq p.1 d2)) = true)
    (h : LT P N K0 w0 ops l ⟨(d2, .ptr d2 0) :: (d1, .dead) :: tm, (d2, cs) :: bs, ar⟩ Q) :
    LT P N K0 w0 ops (⟨some d1, .build t #[(i, x), (j, y)], ty1, pos1, aft1, none⟩ :: ⟨some d2, .box e (.tmp d1), ty2, pos2, aft2, none⟩ :: l) ⟨tm, bs, ar⟩ Q := by
  subst hcs
  intro K n a w hs
  have e1 := hs.opv x
  have e2 := hs.opv y
  rw [h1] at e1
  rw [h2] at e2
  obtain ⟨q1, _⟩ := hs.arr q A (getA_mem hA)
  obtain ⟨B, cap, e3, _⟩ := own_val q1
  have e4 : a.eval y = .slice B A.xs.length cap := (show a.eval y = n.ρ q from e2).trans e3
  have hw1 : ∀ (d : Nat) (o : Op) (ty : TypeId) (pos : String) (aft : Array Edge) (f : Nat → Option Bool), Region.wanted ⟨some d, o, ty, pos, aft, none⟩ f = true := fun _ _ _ _ _ _ => rfl
  have hsz : d1 < a.tmps.size := Nat.lt_of_lt_of_le hd1 hs.size
  have hs1 : Sim N K0 w0 (St.put ⟨tm, bs, ar⟩ d1 .dead) K n (a.put (some d1) (.agg (vs1 ++ .slice B A.xs.length cap :: vs2).toArray)) w := hs.put hd1 (A := .dead) trivial (fun r e k xs h => by rcases h with h | ⟨_, h, _⟩ <;> cases h)
  have hs2 := hs1.newBox (arr := (vs1 ++ Value.slice B A.xs.length cap :: vs2).toArray) (ty := e) (cs := vs1.map AV.val ++ .arow q :: vs2.map AV.val) hd2 hf hnb (by simp) (fun i c hi => by
    rw [List.getElem?_append] at hi
    split at hi
    · rename_i hlt
      rw [List.getElem?_map, Option.map_eq_some_iff] at hi
      obtain ⟨u, hu, rfl⟩ := hi
      have hlt' : i < vs1.length := by simpa using hlt
      show _ = u
      rw [Array.getD_eq_getD_getElem?]
      simp [List.getElem?_append_left hlt', hu]
    · rename_i hge
      have hge' : vs1.length ≤ i := by simpa using hge
      rw [List.length_map] at hi
      rw [Array.getD_eq_getD_getElem?]
      simp only [List.getElem?_toArray, List.getElem?_append_right hge']
      cases hk : i - vs1.length with
      | zero => rw [hk] at hi; simp at hi; subst hi; exact e3.symm
      | succ k =>
        rw [hk] at hi
        simp only [List.getElem?_cons_succ, List.getElem?_map, Option.map_eq_some_iff] at hi
        obtain ⟨u, hu, rfl⟩ := hi
        show _ = u
        simp [hu]) (List.all_eq_true.2 fun c hc => by
    rcases List.mem_append.1 hc with hc | hc
    · obtain ⟨u, _, rfl⟩ := List.mem_map.1 hc; rfl
    · rcases List.mem_cons.1 hc with rfl | hc
      · show (!(Nat.beq q d2)) = true; cases hq : Nat.beq q d2 with | false => rfl | true => exact absurd (Nat.eq_of_beq_eq_true hq) hne
      · obtain ⟨u, _, rfl⟩ := List.mem_map.1 hc; rfl) (fun r e k xs hc => by
    rcases List.mem_append.1 hc with hc | hc
    · obtain ⟨u, _, hu⟩ := List.mem_map.1 hc; cases hu
    · rcases List.mem_cons.1 hc with hc | hc
      · cases hc
      · obtain ⟨u, _, hu⟩ := List.mem_map.1 hc; cases hu)
  have h9 := h K _ _ _ hs2
  have hg : (a.put (some d1) (.agg (vs1 ++ .slice B A.xs.length cap :: vs2).toArray)).eval (.tmp d1) = .agg (vs1 ++ .slice B A.xs.length cap :: vs2).toArray := by
    simp [Act.eval, Act.put, hsz]
  simp only [wpList, hw1, if_true]
  refine .inl ?_
  unfold Oper.wp
  simp only [execOp]
  have hev : (#[(i, x), (j, y)].map fun (i, x) => (i, a.eval x)) = #[(i, v), (j, Value.slice B A.xs.length cap)] := by simp [e4, show a.eval x = v from e1]
  rw [hev, Sem.run_bind, run_build w t _ _ (by simpa using hb B A.xs.length cap)]
  refine Or.inl ?_
  simp only [hg]
  exact h9
/-! ### Objects lent to calls that read them -/
def AV.argT (S : St) : AV → AV
  | .ptr d o => match getB S.boxes d with
    | some cs => .pr (PAt (cs.map (AV.argL S)) o)
    | none => .dead
  | A => A.argL S
theorem AV.argL_rep1 (hs : Sim N K0 w0 S K n a w) {S1 : St} (hB : S.mem = S1.mem) {A : AV} {c : Value} (hr : Rep1 K n A c) : Rep1 (K.lent n S w) Nm.nil (A.argL S1) c := AV.argL_rep hs hB (Rep.of1 hr)
theorem AV.argT_rep (hs : Sim N K0 w0 S K n a w) {S1 : St} (hB : S.mem = S1.mem) {A : AV} {c : Value} (hr : Rep K n A c) : Rep1 (K.lent n S w) Nm.nil (A.argT S1) c := by
  cases A with
  | ptr d o =>
    simp only [AV.argT]
    split
    · rename_i cs hcs
      obtain ⟨b, hb, rfl⟩ := hr
      have hm : (d, cs) ∈ S.boxes := by rw [St.mem_boxes hB]; exact getB_mem hcs
      obtain ⟨b2, arr, ty2, hβ2, _, hh, hsz, hc, _⟩ := hs.box d cs hm
      rw [hb] at hβ2
      injection hβ2 with hβ2
      subst hβ2
      refine fun K' hK => PAt.mono ⟨b, rfl, fun j A hj => ?_⟩ hK
      rw [List.getElem?_map, Option.map_eq_some_iff] at hj
      obtain ⟨B, hB', rfl⟩ := hj
      have h7 := hc _ _ hB'
      have hlt : j < arr.size := by rw [hsz]; exact (List.getElem?_eq_some_iff.1 hB').1
      simp only [Array.getD_eq_getD_getElem?, Array.getElem?_eq_getElem hlt, Option.getD_some] at h7
      refine ⟨arr[j], ?_, AV.argL_rep1 hs hB h7⟩
      refine Know.lent_le b j _ ?_
      unfold Know.boxed
      cases hk : K b j with
      | some u => 
        have := hs.ok b j u hk
        simp only [World.cell?, hh] at this
        simp [Array.getElem?_eq_getElem hlt] at this
        simp [this]
      | none =>
        simp only
        rw [if_pos ⟨d, cs, hm, hb⟩]
        simp only [World.cell?, hh]
        simp [Array.getElem?_eq_getElem hlt]
    · trivial
  | _ => exact AV.argL_rep hs hB hr
def AV.vals : AV → Bool
  | .val _ => true
  | .tup vs => vs.all AV.isVal
  | _ => false
theorem AV.vals_row {A : AV} (h : A.vals = true) (r e k xs) : ¬ (AV.row r e k xs).of A := by
  rintro (rfl | ⟨vs, rfl, hm⟩)
  · cases h
  · have := List.all_eq_true.1 h _ hm; cases this
theorem Rep.vals {K K' : Know} {n n' : Nm} {A : AV} {c : Value} (hp : A.vals = true) (h : Rep K n A c) : Rep K' n' A c := by
  cases A with
  | val v => exact h
  | tup vs =>
    obtain ⟨cs, e, h1, h2⟩ := h
    refine ⟨cs, e, h1, fun i v hv => ?_⟩
    have := List.all_eq_true.1 hp v (List.mem_of_getElem? hv)
    have h3 := h2 i v hv
    cases v <;> first | exact h3 | cases this
  | _ => cases hp
theorem OpH.callT {f : FuncId} {fn : Func} {c : Code} {args : Array Operand} {ats : Array TypeId} {As : List AV} {res : AV} (hf : P.funcs[f]? = some fn) (hname : (fn.name == "runtime.NumGoroutine") = false) (hb : fn.body = some c)
    (hargs : (args.toList.map fun x => (S.opv x).argT S) = As) (hg : Good P f As res) (hp : res.vals = true) : OpH P N K0 w0 ⟨dO, .call { callee := .value (.func f), args := args, argTypes := ats }, ty, pos, aft, g⟩ S res := by
  subst hargs
  intro S' K n a w hs hB hop
  refine upon_enter_calls (call_run hf hname hb a w) (hg (K.lent n S' w) w (args.toList.map a.eval) (Know.lent_ok hs.ok) (by simp) fun i A c hA hc => ?_) ?_
  · rw [List.getElem?_map, Option.map_eq_some_iff] at hc hA
    obtain ⟨x, hx, rfl⟩ := hc
    obtain ⟨x', hx', rfl⟩ := hA
    rw [hx] at hx'; injection hx' with hx'; subst hx'
    have h1 := hs.opv x
    rw [hop x (by simp only [Op.operands, Call.operands]; simp; right; simpa using List.mem_of_getElem? hx)] at h1
    exact AV.argT_rep hs hB h1
  · rintro e w' ⟨c, K', rfl, h1, h2, h3, h4, ρ, h5, _⟩
    exact ⟨c, rfl, c, K, rfl, h1, Know.le_refl K, Know.below hs.ok h1, fun _ _ _ h _ => h, h5.vals hp, fun r e k xs hr => absurd hr (AV.vals_row hp r e k xs)⟩
end
/-! ### Names of boxes and rows changed -/
def AV.nam1 (σ : Nat → Nat) : AV → AV
  | .ptr d o => .ptr (σ d) o
  | .cloB f ds => .cloB f (ds.map fun p => (σ p.1, p.2))
  | .row r e k xs => .row (σ r) e k xs
  | .arow d => .arow (σ d)
  | .aptr d k j o => .aptr (σ d) k j o
  | .asub d k l m => .asub (σ d) k l m
  | A => A
def nmB (σ : Nat → Nat) (bs : List (Nat × List AV)) : List (Nat × List AV) := bs.map fun p => (σ p.1, p.2.map (AV.nam1 σ))
def nmA (σ : Nat → Nat) (ar : List (Nat × Arr)) : List (Nat × Arr) := ar.map fun p => (σ p.1, p.2)
def Nm.pre (n : Nm) (σ : Nat → Nat) : Nm := ⟨fun d => n.β (σ d), fun d => n.ρ (σ d)⟩
theorem nam1_rep {K : Know} {n : Nm} {σ : Nat → Nat} {A : AV} {c : Value} : Rep1 K n (A.nam1 σ) c ↔ Rep1 K (n.pre σ) A c := by
  cases A with
  | cloB f ds =>
    simp only [AV.nam1, Rep1, Nm.pre]
    constructor
    · rintro ⟨ps, h1, h2, h3⟩
      refine ⟨ps, h1, by simpa using h2, fun i p d off hp hd => h3 i p (σ d) off hp (by rw [List.getElem?_map, hd]; rfl)⟩
    · rintro ⟨ps, h1, h2, h3⟩
      refine ⟨ps, h1, by simpa using h2, fun i p d off hp hd => ?_⟩
      rw [List.getElem?_map, Option.map_eq_some_iff] at hd
      obtain ⟨q, hq, e⟩ := hd
      injection e with e1 e2
      subst e1 e2
      exact h3 i p q.1 q.2 hp hq
  | _ => exact Iff.rfl
theorem nam_rep {K : Know} {n : Nm} {σ : Nat → Nat} {A : AV} {c : Value} : Rep K n (A.map1 (AV.nam1 σ)) c ↔ Rep K (n.pre σ) A c := by
  cases A with
  | tup vs =>
    simp only [AV.map1, Rep]
    constructor
    · rintro ⟨cs, h1, h2, h3⟩
      exact ⟨cs, h1, by simpa using h2, fun i v hv => nam1_rep.1 (h3 i _ (by rw [List.getElem?_map, hv]; rfl))⟩
    · rintro ⟨cs, h1, h2, h3⟩
      refine ⟨cs, h1, by simpa using h2, fun i v hv => ?_⟩
      rw [List.getElem?_map, Option.map_eq_some_iff] at hv
      obtain ⟨u, hu, rfl⟩ := hv
      exact nam1_rep.2 (h3 i u hu)
  | ptr d o => exact nam1_rep (K := K) (A := .ptr d o)
  | cloB f ds => exact nam1_rep (K := K) (A := .cloB f ds)
  | row r e k xs => exact nam1_rep (K := K) (A := .row r e k xs)
  | arow d => exact nam1_rep (K := K) (A := .arow d)
  | aptr d k j o => exact nam1_rep (K := K) (A := .aptr d k j o)
  | asub d k l m => exact nam1_rep (K := K) (A := .asub d k l m)
  | dead => exact Iff.rfl
  | val v => exact Iff.rfl
  | sl k xs => exact Iff.rfl
  | full k xs => exact Iff.rfl
  | cptr vs => exact Iff.rfl
  | clo f cs => exact Iff.rfl
  | pr p => exact Iff.rfl
theorem nmB_mem {σ : Nat → Nat} {bs : List (Nat × List AV)} {d : Nat} {cs : List AV} (h : (d, cs) ∈ nmB σ bs) : ∃ d0 cs0, (d0, cs0) ∈ bs ∧ d = σ d0 ∧ cs = cs0.map (AV.nam1 σ) := by
  obtain ⟨⟨d0, cs0⟩, h1, h2⟩ := List.mem_map.1 h
  injection h2 with h2 h3
  exact ⟨d0, cs0, h1, h2.symm, h3.symm⟩
theorem nmA_mem {σ : Nat → Nat} {ar : List (Nat × Arr)} {d : Nat} {A : Arr} (h : (d, A) ∈ nmA σ ar) : ∃ d0, (d0, A) ∈ ar ∧ d = σ d0 := by
  obtain ⟨⟨d0, A0⟩, h1, h2⟩ := List.mem_map.1 h
  injection h2 with h2 h3
  subst h3
  exact ⟨d0, h1, h2.symm⟩
theorem mem_nmB {σ : Nat → Nat} {bs : List (Nat × List AV)} {d : Nat} {cs : List AV} (h : (d, cs) ∈ bs) : (σ d, cs.map (AV.nam1 σ)) ∈ nmB σ bs := List.mem_map.2 ⟨_, h, rfl⟩
theorem mem_nmA {σ : Nat → Nat} {ar : List (Nat × Arr)} {d : Nat} {A : Arr} (h : (d, A) ∈ ar) : (σ d, A) ∈ nmA σ ar := List.mem_map.2 ⟨_, h, rfl⟩
theorem foot_nam {n : Nm} {σ : Nat → Nat} {bs : List (Nat × List AV)} {ar : List (Nat × Arr)} {b : Nat} : foot n (nmB σ bs) (nmA σ ar) b ↔ foot (n.pre σ) bs ar b := by
  constructor
  · rintro (⟨d, cs, hm, hb⟩ | ⟨d, A, hm, hb⟩)
    · obtain ⟨d0, cs0, h1, rfl, _⟩ := nmB_mem hm; exact .inl ⟨d0, cs0, h1, hb⟩
    · obtain ⟨d0, h1, rfl⟩ := nmA_mem hm; exact .inr ⟨d0, A, h1, hb⟩
  · rintro (⟨d, cs, hm, hb⟩ | ⟨d, A, hm, hb⟩)
    · exact .inl ⟨_, _, mem_nmB hm, hb⟩
    · exact .inr ⟨_, _, mem_nmA hm, hb⟩
theorem Mem.pre {K : Know} {n : Nm} {w : World} {own : Nat → Prop} {σ τ : Nat → Nat} (hτ : ∀ d, τ (σ d) = d) {bs : List (Nat × List AV)} {ar : List (Nat × Arr)} : Mem K n w own (nmB σ bs) (nmA σ ar) ↔ Mem K (n.pre σ) w own bs ar := by
  have hinj : ∀ d d', σ d = σ d' → d = d' := fun d d' h => by rw [← hτ d, h, hτ]
  constructor
  · intro h
    exact {
      box := fun d cs hm => by
        obtain ⟨b, arr, ty, h1, h2, h3, h4, h5, h6⟩ := h.box _ _ (mem_nmB (σ := σ) hm)
        exact ⟨b, arr, ty, h1, h2, h3, by simpa using h4, fun i c hi => nam1_rep.1 (h5 i _ (by rw [List.getElem?_map, hi]; rfl)), h6⟩
      boxInj := fun d cs d' cs' b h1 h2 g1 g2 => hinj _ _ (h.boxInj _ _ _ _ b (mem_nmB h1) (mem_nmB h2) g1 g2)
      boxOne := fun d cs cs' h1 h2 => by
        have := h.boxOne _ _ _ (mem_nmB (σ := σ) h1) (mem_nmB h2)
        have key : ∀ A : AV, (A.nam1 σ).nam1 τ = A := fun A => by
          cases A <;> simp [AV.nam1, hτ]
          rename_i ds
          induction ds with
          | nil => rfl
          | cons p ds ih => simp [hτ, ih]
        have h3 := congrArg (List.map (AV.nam1 τ)) this
        simpa [Function.comp_def, key] using h3
      arr := fun d A hm => by
        obtain ⟨h1, h2, h3⟩ := h.arr _ _ (mem_nmA (σ := σ) hm)
        exact ⟨h1, h2, fun g hg => ⟨(h3 g hg).1, (h3 g hg).2.1, fun d' cs hm' => (h3 g hg).2.2 _ _ (mem_nmB hm')⟩⟩
      arrInj := fun d A d' A' g h1 h2 g1 g2 => hinj _ _ (h.arrInj _ _ _ _ g (mem_nmA h1) (mem_nmA h2) g1 g2)
      arrOne := fun d A A' h1 h2 => h.arrOne _ _ _ (mem_nmA (σ := σ) h1) (mem_nmA h2) }
  · intro h
    exact {
      box := fun d cs hm => by
        obtain ⟨d0, cs0, hm0, rfl, rfl⟩ := nmB_mem hm
        obtain ⟨b, arr, ty, h1, h2, h3, h4, h5, h6⟩ := h.box _ _ hm0
        refine ⟨b, arr, ty, h1, h2, h3, by simpa using h4, fun i c hi => ?_, h6⟩
        rw [List.getElem?_map, Option.map_eq_some_iff] at hi
        obtain ⟨u, hu, rfl⟩ := hi
        exact nam1_rep.2 (h5 i u hu)
      boxInj := fun d cs d' cs' b h1 h2 g1 g2 => by
        obtain ⟨d0, cs0, hm0, rfl, rfl⟩ := nmB_mem h1
        obtain ⟨d1, cs1, hm1, rfl, rfl⟩ := nmB_mem h2
        rw [h.boxInj _ _ _ _ b hm0 hm1 g1 g2]
      boxOne := fun d cs cs' h1 h2 => by
        obtain ⟨d0, cs0, hm0, e1, rfl⟩ := nmB_mem h1
        obtain ⟨d1, cs1, hm1, e2, rfl⟩ := nmB_mem h2
        have : d0 = d1 := hinj _ _ (e1.symm.trans e2)
        subst this
        rw [h.boxOne _ _ _ hm0 hm1]
      arr := fun d A hm => by
        obtain ⟨d0, hm0, rfl⟩ := nmA_mem hm
        obtain ⟨h1, h2, h3⟩ := h.arr _ _ hm0
        refine ⟨h1, h2, fun g hg => ⟨(h3 g hg).1, (h3 g hg).2.1, fun d' cs hm' => ?_⟩⟩
        obtain ⟨d1, cs1, hm1, rfl, rfl⟩ := nmB_mem hm'
        exact (h3 g hg).2.2 _ _ hm1
      arrInj := fun d A d' A' g h1 h2 g1 g2 => by
        obtain ⟨d0, hm0, rfl⟩ := nmA_mem h1
        obtain ⟨d1, hm1, rfl⟩ := nmA_mem h2
        rw [h.arrInj _ _ _ _ g hm0 hm1 g1 g2]
      arrOne := fun d A A' h1 h2 => by
        obtain ⟨d0, hm0, e1⟩ := nmA_mem h1
        obtain ⟨d1, hm1, e2⟩ := nmA_mem h2
        have : d0 = d1 := hinj _ _ (e1.symm.trans e2)
        subst this
        exact h.arrOne _ _ _ hm0 hm1 }
theorem GoodO.nam {P : Program} {f : FuncId} {As As' : List AV} {bs bs1 bs' bs1' : List (Nat × List AV)} {ar ar1 ar' ar1' : List (Nat × Arr)} {res res' : AV} (σ τ : Nat → Nat) (hτ : ∀ d, τ (σ d) = d) (hστ : ∀ d, σ (τ d) = d) (h : GoodO P f As bs ar res bs1 ar1)
    (e1 : As.map (AV.nam1 σ) = As') (e2 : nmB σ bs = bs') (e3 : nmA σ ar = ar') (e4 : res.map1 (AV.nam1 σ) = res') (e5 : nmB σ bs1 = bs1') (e6 : nmA σ ar1 = ar1') : GoodO P f As' bs' ar' res' bs1' ar1' := by
  subst e1 e2 e3 e4 e5 e6
  intro K n w cargs hok hlen hrep hmem
  refine (h K (n.pre σ) w cargs hok (by simpa using hlen) (fun i A c hA hc => nam1_rep.1 (hrep i _ c (by rw [List.getElem?_map, hA]; rfl) hc)) ((Mem.pre hτ).1 hmem)).mono ?_
  rintro e w' ⟨c, K', n', rfl, h1, h2, h3, h4, h5, h6, h7⟩
  have hpre : (n'.pre τ).pre σ = n' := by simp [Nm.pre, hτ]
  have hfe : foot n (nmB σ bs) (nmA σ ar) = foot (n.pre σ) bs ar := funext fun b => propext foot_nam
  refine ⟨c, K', n'.pre τ, rfl, by rw [hfe]; exact h1, h2, h3, h4, nam_rep.2 (by rw [hpre]; exact h5), (Mem.pre hτ).2 (by rw [hpre, hfe]; exact h6), fun d cs cs' q1 q2 => ?_⟩
  obtain ⟨d0, cs0, m0, rfl, _⟩ := nmB_mem q1
  obtain ⟨d1, cs1, m1, e1, _⟩ := nmB_mem q2
  have : d0 = d1 := by rw [← hτ d0, e1, hτ]
  subst this
  have := h7 d0 _ _ m0 m1
  simpa [Nm.pre, hτ] using this
def sw (a b d : Nat) : Nat := cond (Nat.beq d a) b (cond (Nat.beq d b) a d)
theorem sw_sw (a b d : Nat) : sw a b (sw a b d) = d := by
  unfold sw
  cases h1 : Nat.beq d a with
  | true =>
    have := Nat.eq_of_beq_eq_true h1
    subst this
    simp only [cond_true]
    cases h2 : Nat.beq b d with
    | true => have := Nat.eq_of_beq_eq_true h2; subst this; rfl
    | false => simp
  | false =>
    simp only [cond_false]
    cases h2 : Nat.beq d b with
    | true =>
      have := Nat.eq_of_beq_eq_true h2
      subst this
      simp
    | false => simp [h1, h2]
def sw2 (a b c e d : Nat) : Nat := sw a b (sw c e d)
theorem sw2_inv (a b c e d : Nat) : sw2 c e a b (sw2 a b c e d) = d := by unfold sw2; rw [sw_sw, sw_sw]
end Go.Proofs.Ytkfmammkbmhfaaa

/- Abstract walks: drawn regions, all orders one by one. -/
namespace Go.Proofs.Ytkfmammkbmhfaaa
set_option linter.unusedSimpArgs false
set_option linter.unusedVariables false
open Go Go.RowKit Go.Shelf
section
variable {P : Program} {N : Nat} {K0 : Know} {w0 : Bas} {S S' : St} {Q : St → Prop} {ops : Array Oper} {f : Nat} {listed : Array Bool}
def AY (P : Program) (N : Nat) (K0 : Know) (w0 : Bas) (ops : Array Oper) (f : Nat) (listed : Array Bool) (S : St) (Q : St → Prop) : Prop :=
  ∀ K n a w, Sim N K0 w0 S K n a w → wpAny P .any ops (fun e a' w' => e = .normal ∧ ∃ K' n' S', Q S' ∧ Sim N K0 w0 S' K' n' a' w') f listed a w
def AYo (P : Program) (N : Nat) (K0 : Know) (w0 : Bas) (ops : Array Oper) (f : Nat) (listed : Array Bool) (S : St) (Q : St → Prop) (i : Nat) : Prop :=
  ∃ o, ops[i]? = some o ∧ (∀ g, Region.wanted o g = true) ∧ OpT P N K0 w0 o S fun S' => AY P N K0 w0 ops f (listed.setIfInBounds i true) S' Q
def AYs (P : Program) (N : Nat) (K0 : Know) (w0 : Bas) (ops : Array Oper) (f : Nat) (listed : Array Bool) (S : St) (Q : St → Prop) : List Nat → Prop
  | [] => True
  | i :: rs => AYo P N K0 w0 ops f listed S Q i ∧ AYs P N K0 w0 ops f listed S Q rs
theorem AYs.all : ∀ {rs : List Nat}, AYs P N K0 w0 ops f listed S Q rs → ∀ i ∈ rs, AYo P N K0 w0 ops f listed S Q i
  | _ :: _, h, i, hi => by
    rcases List.mem_cons.1 hi with rfl | hi
    · exact h.1
    · exact AYs.all h.2 i hi
theorem AY.go {rs : List Nat} (hr : Region.ready .any ops listed = rs) (hne : rs ≠ []) (h : AYs P N K0 w0 ops f listed S Q rs) : AY P N K0 w0 ops (f + 1) listed S Q := by
  intro K n a w hs
  refine wpAny_all hr hne fun i hi => ?_
  obtain ⟨o, ho, hw, ht⟩ := AYs.all h i hi
  unfold wpOp
  rw [ho]
  simp only [hw, if_true]
  refine .inl (upon_false (Oper.wp_mono ?_ (ht K n a w hs)))
  rintro a' w' ⟨K', n', S', h1, h2⟩
  exact h1 K' n' a' w' h2
theorem AY.done (hr : Region.ready .any ops listed = []) (h : Q S) : AY P N K0 w0 ops f listed S Q := fun K n a w hs => wpAny_done hr ⟨rfl, K, n, S, h, hs⟩ f
theorem CT.drawY {QE : Exit → St → Prop} {id : Nat} {l : List Oper} (hm : P.follows .mixedOrders = true) (h : AY P N K0 w0 l.toArray l.toArray.size (Array.replicate l.toArray.size false) S fun S' => QE .normal S') : CT P N K0 w0 (.region id l.toArray true) S QE := by
  intro K nm a w hsim
  refine wp_mono (wp_region_any hm (h K nm a _ hsim.drew)) ?_
  rintro e a' w' ⟨rfl, K', n', S', h1, h2⟩
  exact ⟨K', n', S', h1, h2⟩
variable {tm : List (Nat × AV)} {bs : List (Nat × List AV)} {ar : List (Nat × Arr)} {opn : Op} {ty : TypeId} {pos : String} {aft : Array Edge} {rs : List Nat}
theorem AYs.nil : AYs P N K0 w0 ops f listed S Q [] := trivial
theorem AYs.val {i d : Nat} {v : AV} (ho : ops[i]? = some ⟨some d, opn, ty, pos, aft, none⟩) (h : OpH P N K0 w0 ⟨some d, opn, ty, pos, aft, none⟩ ⟨tm, bs, ar⟩ v) (hd : d < N) (hk : AY P N K0 w0 ops f (listed.setIfInBounds i true) ⟨(d, v) :: tm, bs, ar⟩ Q) (hr : AYs P N K0 w0 ops f listed ⟨tm, bs, ar⟩ Q rs) : AYs P N K0 w0 ops f listed ⟨tm, bs, ar⟩ Q (i :: rs) :=
  ⟨⟨_, ho, fun _ => rfl, h.toT (fun t e => by injection e with e; rw [← e]; exact hd) hk⟩, hr⟩
theorem AYs.step {i : Nat} {o : Option Nat} (ho : ops[i]? = some ⟨o, opn, ty, pos, aft, none⟩) (h : OpT P N K0 w0 ⟨o, opn, ty, pos, aft, none⟩ ⟨tm, bs, ar⟩ fun S' => AY P N K0 w0 ops f (listed.setIfInBounds i true) S' Q) (hr : AYs P N K0 w0 ops f listed ⟨tm, bs, ar⟩ Q rs) : AYs P N K0 w0 ops f listed ⟨tm, bs, ar⟩ Q (i :: rs) :=
  ⟨⟨_, ho, fun _ => rfl, h⟩, hr⟩
end
/-! ### Calls that are handed objects and give slices back -/
def AV.argP : AV → AV
  | .ptr b o => .ptr b o
  | .arow d => .arow d
  | A => A.arg
theorem AV.argP_rep {K : Know} {n : Nm} {A : AV} {c : Value} (h : Rep K n A c) : Rep1 K n A.argP c := by
  have key : ∀ {A : AV}, Rep K n A c → Rep1 K n A.arg c := fun {A} h => ((AV.arg_of A).rep h).plain (AV.arg_plain A)
  cases A with
  | ptr b o => exact h
  | arow d => exact h
  | cloB f ds => exact key (A := .cloB f ds) h
  | dead => exact key h
  | val v => exact key (A := .val v) h
  | sl k xs => exact key (A := .sl k xs) h
  | full k xs => exact key (A := .full k xs) h
  | cptr vs => exact key (A := .cptr vs) h
  | clo f cs => exact key (A := .clo f cs) h
  | row r e k xs => exact key (A := .row r e k xs) h
  | pr p => exact key (A := .pr p) h
  | aptr d k j o => exact key (A := .aptr d k j o) h
  | asub d k l m => exact key (A := .asub d k l m) h
  | tup vs => exact key (A := .tup vs) h
section
variable {P : Program} {N : Nat} {K0 : Know} {w0 : Bas} {Q : St → Prop} {ty : TypeId} {pos : String} {aft : Array Edge} {g : Option (Nat × Bool)} {tm : List (Nat × AV)} {bs bs0 bs1 : List (Nat × List AV)} {ar ar0 ar1 : List (Nat × Arr)} {dn : Nat}
theorem T.callOS {f : FuncId} {fn : Func} {c : Code} {args : Array Operand} {ats : Array TypeId} {As : List AV} {res : AV} {T : St} (hf : P.funcs[f]? = some fn) (hname : (fn.name == "runtime.NumGoroutine") = false) (hb : fn.body = some c)
    (hg : GoodO P f As bs0 ar0 res bs1 ar1) (hT : St.without ⟨tm, bs, ar⟩ bs0 ar0 = T) (hargs : (args.toList.map fun x => (St.opv ⟨tm, bs, ar⟩ x).argP) = As)
    (hb0 : bs0.map (fun p => getB bs p.1) = bs0.map (fun p => some p.2)) (ha0 : ar0.map (fun p => getA ar p.1) = ar0.map (fun p => some p.2))
    (hfb : bs1.all (fun p => (hasB bs0 p.1 || T.free p.1) && T.boxes.all fun q => !(Nat.beq q.1 p.1)) = true) (hfa : ar1.all (fun p => T.free p.1) = true)
    (hnw : ∀ p ∈ bs1, hasB bs0 p.1 = false → w0.β p.1 = none)
    (hcells : bs1.all (fun p => p.2.all (AV.okO false bs1 ar1)) = true) (hres : res.okO' false bs1 ar1 = true) (hd : dn < N)
    (hq : Q ⟨(dn, res) :: T.tmps, bs1 ++ T.boxes, ar1 ++ T.arrs⟩) :
    OpT P N K0 w0 ⟨some dn, .call { callee := .value (.func f), args := args, argTypes := ats }, ty, pos, aft, g⟩ ⟨tm, bs, ar⟩ Q := by
  subst hT hargs
  intro K n a w hs
  obtain ⟨hs2, hwk, h2b, h2a⟩ := without_ok hs bs0 ar0
  have mb : ∀ d cs, (d, cs) ∈ bs0 → (d, cs) ∈ bs := fun d cs hm => getB_mem (map_some_mem (g := Prod.snd) hb0 _ hm)
  have ma : ∀ d A, (d, A) ∈ ar0 → (d, A) ∈ ar := fun d A hm => getA_mem (map_some_mem (g := Prod.snd) ha0 _ hm)
  have hmem : Mem K n w (fun _ => True) bs0 ar0 := {
    box := fun d cs hm => by
      obtain ⟨b, arr, ty, q1, q2, q3, q4, q5, q6⟩ := hs.box d cs (mb d cs hm)
      exact ⟨b, arr, ty, q1, trivial, q3, q4, q5, q6⟩
    boxInj := fun d cs d' cs' b h1 h2 => hs.boxInj d cs d' cs' b (mb _ _ h1) (mb _ _ h2)
    boxOne := fun d cs cs' h1 h2 => hs.boxOne d cs cs' (mb _ _ h1) (mb _ _ h2)
    arr := fun d A hm => by
      obtain ⟨q1, q2, q3⟩ := hs.arr d A (ma d A hm)
      exact ⟨q1, q2, fun b hb => ⟨trivial, (q3 b hb).2.1, fun d' cs hm' => (q3 b hb).2.2.1 d' cs (mb _ _ hm')⟩⟩
    arrInj := fun d A d' A' g h1 h2 => hs.arrInj d A d' A' g (ma _ _ h1) (ma _ _ h2)
    arrOne := fun d A A' h1 h2 => hs.arrOne d A A' (ma _ _ h1) (ma _ _ h2) }
  refine upon_enter_calls (call_run hf hname hb a w) (hg K n w (args.toList.map a.eval) hs.ok (by simp) (fun i A c hA hc => ?_) hmem) ?_
  · rw [List.getElem?_map, Option.map_eq_some_iff] at hA hc
    obtain ⟨x, hx, rfl⟩ := hc
    obtain ⟨x', hx', rfl⟩ := hA
    rw [hx] at hx'
    injection hx' with hx'
    subst hx'
    exact AV.argP_rep (hs.opv x)
  · rintro e' w' ⟨c, K', n', rfl, h1, h2, h3, h4, h5, h6, h7⟩
    refine ⟨c, rfl, K', _, _, hq, hs.handed mb ma hs2 hwk h2b h2a h1 h2 h3 h4 (fun b o hge hn => hn) h6 h7 (fun d cs hm => ?_) (fun d A hm => List.all_eq_true.1 hfa _ hm) (boxed := false) (fun d cs hm A hA => ?_) (fun _ => Know.le_refl K') hd h5 hres⟩
    · have := List.all_eq_true.1 hfb _ hm
      simp only [Bool.and_eq_true, Bool.or_eq_true] at this
      refine ⟨?_, fun cs' hm' => ?_⟩
      · cases hq : hasB bs0 d with
        | true => exact .inl rfl
        | false =>
          rcases this.1 with h | h
          · rw [hq] at h; cases h
          · exact .inr ⟨h, hnw _ hm hq⟩
      · have := List.all_eq_true.1 this.2 _ hm'
        simp at this
    · exact List.all_eq_true.1 (List.all_eq_true.1 hcells _ hm) A hA
end
end Go.Proofs.Ytkfmammkbmhfaaa

/- Abstract walks: drawn regions whose first operation, a move, nothing of the head waits for. -/
namespace Go.Proofs.Ytkfmammkbmhfaaa
set_option linter.unusedSimpArgs false
set_option linter.unusedVariables false
open Go Go.RowKit Go.Shelf
section
variable {P : Program} {N : Nat} {K0 : Know} {w0 : Bas} {S : St} {ops : Array Oper}
def sinkM (ops : Array Oper) (m n : Nat) : Bool := (List.range n).all fun i => decide (i < m) || (List.range (n + 1)).any fun j => decide (i < j) && Region.waitsFor .any ops j i
def headMB (ops : Array Oper) (N m n : Nat) : Bool := dstsB ops N && discB ops n && sinkM ops m n && chainW ops n && decide (n < ops.size) && Region.seqB .any ops (ops.size - n) n (canon ops.size n)
theorem tail_waitsM {m0 n : Nat} {listed : Array Bool} (hs : sinkM ops m0 n = true) (hc : chainW ops n = true) (hn : n < ops.size) (inv : HeadInv .any ops n listed) :
    ∀ (d i : Nat), n - i = d → m0 ≤ i → i < n → listed.getD i true = false → ∀ t, n ≤ t → t ∉ Region.ready .any ops listed := by
  intro d
  induction d using Nat.strongRecOn with
  | _ d ih =>
    intro i hd hm hi hun t ht hr
    obtain ⟨_, ot, hot, hall⟩ := mem_ready.1 hr
    have htlt : t < ops.size := (Array.getElem?_eq_some_iff.1 hot).1
    by_cases htn : t = n
    · subst htn
      have h1 := List.all_eq_true.1 hs i (List.mem_range.2 hi)
      rw [Bool.or_eq_true, decide_eq_true_eq] at h1
      obtain ⟨j, hj, hj2⟩ := List.any_eq_true.1 (h1.resolve_left (by omega))
      simp only [Bool.and_eq_true, decide_eq_true_eq] at hj2
      obtain ⟨oj, hoj, e, he, hb, hon⟩ := Region.waitsFor_spec hj2.2
      have hjle : j ≤ t := by have := List.mem_range.1 hj; omega
      by_cases hjt : j = t
      · subst hjt
        have : oj = ot := Option.some.inj (hoj.symm.trans hot)
        subst this
        have h2 := hall e he hb
        rw [hon, getD_both hun] at h2
        cases h2
      · cases hl : listed.getD j false with
        | true =>
          have h2 := inv.closed j oj hoj hl e he hb
          rw [hon, getD_both hun] at h2
          cases h2
        | false =>
          have hjs : j < listed.size := by rw [inv.size]; omega
          exact ih (t - j) (by omega) j rfl (by omega) (by omega) (getD_in hjs hl) t (Nat.le_refl _) hr
    · have h1 := List.all_eq_true.1 hc t (List.mem_range.2 htlt)
      simp only [Bool.or_eq_true, decide_eq_true_eq] at h1
      rcases h1 with h1 | h1
      · omega
      · obtain ⟨j, hj, hj2⟩ := List.any_eq_true.1 h1
        rw [Bool.and_eq_true, decide_eq_true_eq] at hj2
        have hjt := List.mem_range.1 hj
        obtain ⟨o', ho', e, he, hb, hon⟩ := Region.waitsFor_spec hj2.2
        have : o' = ot := Option.some.inj (ho'.symm.trans hot)
        subst this
        have h2 := hall e he hb
        rw [hon, getD_both (inv.tail j hj2.1 (by omega))] at h2
        cases h2
theorem any_headM {n1 n g : Nat} {vs : List AV} {Q' : Exit → Act → World → Prop} (hdN : dstsB ops N = true) (hD : discB ops n = true) (hs : sinkM ops n1 n = true) (hc : chainW ops n = true) (hn : n < ops.size) (hvl : vs.length = n)
    (hok : ∀ i o v, n1 ≤ i → i < n → ops[i]? = some o → vs[i]? = some v → HOk P N K0 w0 ops o (foldS S (ops.toList.take i) (vs.take i)) v)
    (hT : ∀ T K nm a w, HInv ops n S vs (canon ops.size n) T → Sim N K0 w0 T K nm a w → wpAny P .any ops Q' g (canon ops.size n) a w) :
    ∀ (f : Nat) (listed : Array Bool) (T : St) (K : Know) (nm : Nm) (a : Act) (w : World), cntU listed n = f → (∀ j, j < n1 → listed.getD j true = true) → HeadInv .any ops n listed → HInv ops n S vs listed T → Sim N K0 w0 T K nm a w → wpAny P .any ops Q' (f + g) listed a w := by
  intro f
  induction f with
  | zero =>
    intro listed T K nm a w hf hfst inv hi hsim
    have hall := cntU_zero n hf
    have e : listed = canon ops.size n := by
      apply Array.ext
      · simp [canon, inv.size]
      · intro j h1 h2
        by_cases hj : j < n
        · have := hall j hj
          simp [canon, hj]
          simpa [h1] using this
        · have := inv.tail j (by omega) (by rw [← inv.size]; exact h1)
          simp [canon, hj]
          simpa [h1] using this
    subst e
    rw [Nat.zero_add]
    exact hT T K nm a w hi hsim
  | succ f ih =>
    intro listed T K nm a w hf hfst inv hi hsim
    obtain ⟨i0, hi0, hun0, hmin⟩ := cntU_pos n (by omega : cntU listed n ≠ 0)
    have hi1 : n1 ≤ i0 := by
      rcases Nat.lt_or_ge i0 n1 with h | h
      · rw [hfst i0 h] at hun0; cases hun0
      · exact h
    rw [show f + 1 + g = (f + g) + 1 by omega]
    have hready0 : i0 ∈ Region.ready .any ops listed := by
      obtain ⟨oi, hoi, hback, _⟩ := discB_spec hD hi0
      refine mem_ready.2 ⟨hun0, oi, hoi, fun e he hb => ?_⟩
      have h1 := hmin e.on (hback e he hb)
      have hlt : e.on < listed.size := by rw [inv.size]; have := hback e he hb; omega
      simpa [hlt] using h1
    refine ⟨fun h0 => (by rw [h0] at hready0; cases hready0), fun i hr => ?_⟩
    have hin : i < n := by
      rcases Nat.lt_or_ge i n with h | h
      · exact h
      · exact absurd hr (tail_waitsM hs hc hn inv _ i0 rfl hi1 hi0 hun0 i h)
    obtain ⟨hun, oi', hoi', hall⟩ := mem_ready.1 hr
    obtain ⟨oi, hoi, hback, hdisc⟩ := discB_spec hD hin
    obtain rfl : oi' = oi := Option.some.inj (hoi'.symm.trans hoi)
    have hvi : i < vs.length := by rw [hvl]; exact hin
    have hv : vs[i]? = some vs[i] := List.getElem?_eq_getElem hvi
    have hin1 : n1 ≤ i := by
      rcases Nat.lt_or_ge i n1 with h | h
      · have := hfst i h
        rw [hun] at this; cases this
      · exact h
    have hstep := hok i _ _ hin1 hin hoi hv
    have hlisted : ∀ j, listed.getD j false = true → listed.getD j true = true := fun j hj => by
      cases h : listed.getD j true with
      | true => rfl
      | false => rw [getD_both h] at hj; cases hj
    -- the operands are as in the order of the text
    have hget : ∀ t, t ∈ oi'.looksAt ops → T.get t = (foldS S (ops.toList.take i) (vs.take i)).get t := by
      intro t ht
      have htk : ∀ (j : Nat) o, (ops.toList.take i)[j]? = some o → j < i ∧ ops[j]? = some o := fun j o ho => by
        rw [List.getElem?_take] at ho
        split at ho
        · rename_i hj; exact ⟨hj, by simpa using ho⟩
        · cases ho
      by_cases hex : ∃ j, j < n ∧ dstAt ops j = some t
      · obtain ⟨j, hj, hd⟩ := hex
        have huniq : ∀ k, k < n → dstAt ops k = some t → k = j := fun k hk hdk => by
          obtain ⟨_, _, _, hdk'⟩ := discB_spec hD hk
          rcases (hdk' j t hj hd).1 with h | h
          · exact h
          · exact absurd hdk h
        obtain ⟨_, hw⟩ := hdisc j t hj hd
        obtain ⟨hw1, hw2⟩ := hw ht
        rcases Nat.lt_or_ge j i with hji | hji
        · obtain ⟨o', ho', e, he, hb, hon⟩ := Region.waitsFor_spec (hw1 hji)
          obtain rfl : o' = oi' := Option.some.inj (ho'.symm.trans hoi)
          have hlj := hall e he hb
          rw [hon] at hlj
          have hvj : j < vs.length := by omega
          rw [hi.got j t vs[j] hj (hlisted j hlj) hd (List.getElem?_eq_getElem hvj)]
          cases hoj : ops[j]? with
          | none => simp [dstAt, hoj] at hd
          | some oj =>
            symm
            refine foldS_get _ _ S t j oj vs[j] (by rw [List.getElem?_take, if_pos hji]; simpa using hoj) (by rw [List.getElem?_take, if_pos hji]; exact List.getElem?_eq_getElem hvj) (by simpa [dstAt, hoj] using hd) (fun j' o' hjj ho' => ?_)
            obtain ⟨h1, h2⟩ := htk j' o' ho'
            intro hdd
            have := huniq j' (by omega) (by simp [dstAt, h2, hdd])
            omega
        · have hnl : listed.getD j true ≠ true := by
            rcases Nat.lt_or_ge i j with hij | hij
            · intro hl
              obtain ⟨oj, hoj, e, he, hb, hon⟩ := Region.waitsFor_spec (hw2 hij)
              have hjs : j < listed.size := by rw [inv.size]; omega
              have := inv.closed j oj hoj (by simpa [hjs] using hl) e he hb
              rw [hon, getD_both hun] at this
              cases this
            · have : j = i := by omega
              subst this
              rw [hun]; simp
          rw [hi.no t (fun k hk hl hdk => by have := huniq k hk hdk; subst this; exact hnl hl)]
          symm
          refine foldS_get_no _ _ S t (fun k o ho hdk => ?_)
          obtain ⟨h1, h2⟩ := htk k o ho
          have := huniq k (by omega) (by simp [dstAt, h2, hdk])
          omega
      · rw [hi.no t (fun k hk _ hdk => hex ⟨k, hk, hdk⟩)]
        symm
        refine foldS_get_no _ _ S t (fun k o ho hdk => ?_)
        obtain ⟨h1, h2⟩ := htk k o ho
        exact hex ⟨k, by omega, by simp [dstAt, h2, hdk]⟩
    have hnext : ∀ (K' : Know) (nm' : Nm) (a' : Act) (w' : World), Sim N K0 w0 (T.putO oi'.dst vs[i]) K' nm' a' w' → wpAny P .any ops Q' (f + g) (listed.setIfInBounds i true) a' w' := by
      intro K' nm' a' w' hs'
      have hset : ∀ j, j ≠ i → (listed.setIfInBounds i true).getD j true = listed.getD j true := fun j hj => getD_set_ne true (Ne.symm hj)
      refine ih _ _ K' nm' a' w' (by rw [cntU_set hun, if_pos hin]; omega) (fun j hj => by rw [hset j (by omega)]; exact hfst j hj) (inv.set hr hin) ⟨?_, fun j t v hj hl hd hvv => ?_, fun t hno => ?_⟩ hs'
      · rw [← hi.mem]; cases oi'.dst <;> rfl
      · by_cases e : j = i
        · subst e
          have hdi : oi'.dst = some t := by simpa [dstAt, hoi] using hd
          rw [hdi, putO_get_eq]
          rw [hv] at hvv
          exact Option.some.inj hvv
        · have hne : oi'.dst ≠ some t := fun h => by
            have := (hdisc j t hj hd).1
            rcases this with h1 | h1
            · exact e h1.symm
            · exact h1 (by simp [dstAt, hoi, h])
          rw [putO_get_ne hne]
          exact hi.got j t v hj (by rw [← hset j e]; exact hl) hd hvv
      · have hilt : i < listed.size := by rw [inv.size]; omega
        have hne : oi'.dst ≠ some t := fun h => hno i hin (by simp [hilt]) (by simp [dstAt, hoi, h])
        rw [putO_get_ne hne]
        refine hi.no t (fun j hj hl => hno j hj ?_)
        by_cases e : j = i
        · subst e; simp [hilt]
        · rw [hset j e]; exact hl
    have hdO := dstsB_spec (N := N) hdN hoi
    have hgd : ∀ b, GuardIs ops oi' (foldS S (ops.toList.take i) (vs.take i)) b → GuardIs ops oi' T b := fun b hb => by
      unfold GuardIs at *
      cases hg : oi'.guard with
      | none => rw [hg] at hb; exact hb
      | some p =>
        obtain ⟨g', want⟩ := p
        rw [hg] at hb
        obtain ⟨dg, h1, h2⟩ := hb
        refine ⟨dg, h1, ?_⟩
        rw [hget dg (by unfold Oper.looksAt; rw [hg]; simp [h1])]
        exact h2
    unfold wpOp
    simp only [hoi]
    have hgN : ∀ g' want dg, oi'.guard = some (g', want) → ((ops[g']?).bind (·.dst)) = some dg → dg < N := fun g' want dg _ hd => dstsB_at hdN hd
    rcases hstep with ⟨hg, hop⟩ | ⟨hg, hvu⟩
    · rw [wanted_of hsim (hgd true hg) hgN]
      simp only [if_true]
      refine .inl (upon_false (Oper.wp_mono ?_ (hop T K nm a w hsim (hi.mem.trans (foldS_boxes _ _ S).symm) (fun x hx => ?_))))
      · rintro a' w' ⟨c, K', rfl, h1, h2, h3, h4, h5, h6⟩
        exact hnext K' nm _ w' ((hsim.grow h1 h2 h3 h4).putO hdO h5 h6)
      · cases x with
        | tmp t => exact hget t (List.mem_append_left _ (List.mem_filterMap.2 ⟨.tmp t, by simpa using hx, rfl⟩))
        | const v => rfl
        | global g => rfl
        | func f => rfl
    · rw [wanted_of hsim (hgd false hg) hgN]
      simp only [Bool.false_eq_true, if_false]
      refine hnext K nm _ w (hsim.putO hdO ?_ ?_)
      · rw [hvu]; exact rfl
      · rw [hvu]; exact has_val
theorem draw_fromM {Q : St → Prop} {l : List Oper} (m n : Nat) (hmn : m ≤ n) (hB : headMB l.toArray N m n = true) (h : HT P N K0 w0 l.toArray ((l.take n).drop m) S fun S' => LT P N K0 w0 l.toArray (l.drop n) S' Q) {K : Know} {nm : Nm} {a : Act} {w : World} (hsim : Sim N K0 w0 S K nm a w) :
    wpAny P .any l.toArray (fun e a' w' => e = .normal ∧ ∃ K' n' S', Q S' ∧ Sim N K0 w0 S' K' n' a' w') (l.toArray.size - m) (canon l.toArray.size m) a w := by
  simp only [headMB, Bool.and_eq_true, decide_eq_true_eq] at hB
  obtain ⟨⟨⟨⟨⟨hdN, hD⟩, hs⟩, hc⟩, hn⟩, hseq⟩ := hB
  have hn' : n < l.length := by simpa using hn
  obtain ⟨vs2, h1, h2, h3⟩ := h.elim
  have htl : ((l.take n).drop m).length = n - m := by simp; omega
  rw [htl] at h1
  have hv1l : ((l.take m).map fun o => match o.dst with | some d => S.get d | none => AV.dead).length = m := by simp; omega
  obtain ⟨hsg, hsm⟩ := foldS_self (l.take m) S S (fun _ => rfl) rfl
  generalize hv1 : ((l.take m).map fun o => match o.dst with | some d => S.get d | none => AV.dead) = vs1 at hv1l hsg hsm
  have hv1g : ∀ (j : Nat) o d v, l[j]? = some o → o.dst = some d → vs1[j]? = some v → v = S.get d := fun j o d v ho hd hv => by
    rw [← hv1, List.getElem?_map] at hv
    obtain ⟨o', ho', e⟩ := Option.map_eq_some_iff.1 hv
    have hj : j < m := by
      have := (List.getElem?_eq_some_iff.1 ho').1
      simp at this; omega
    rw [List.getElem?_take, if_pos hj] at ho'
    rw [ho] at ho'
    injection ho' with ho'
    subst ho'
    rw [hd] at e
    exact e.symm
  have hcan : ∀ j, j < m → (canon l.toArray.size m).getD j true = true := fun j hj => by
    have hjl : j < l.length := by omega
    simp [canon, hj, hjl]
  have hcan2 : ∀ j, (canon l.toArray.size m).getD j false = true → j < m := fun j hj => by
    by_cases c : j < l.length
    · simpa [canon, c] using hj
    · simp [canon, c] at hj
  have hsplit : ∀ i, m ≤ i → i ≤ n → l.take i = l.take m ++ ((l.take n).drop m).take (i - m) := fun i h1 h2 => by
    rw [← List.drop_take, ← List.take_append_drop m (l.take i)]
    congr 1
    · rw [List.take_take, Nat.min_eq_left h1]
    · rw [List.take_take]
      congr 2
      omega
  have inv0 : HeadInv .any l.toArray n (canon l.toArray.size m) :=
    ⟨by simp [canon], fun j oj hoj hl e he hb => by
      have hjm := hcan2 j hl
      obtain ⟨oi, hoi, hback, _⟩ := discB_spec hD (show j < n by omega)
      obtain rfl : oi = oj := Option.some.inj (hoi.symm.trans hoj)
      have := hback e he hb
      have hel : e.on < l.length := by omega
      simp [canon, hel]; omega, fun t ht htl => by
      have : t < l.length := by simpa using htl
      simp [canon, this]; omega⟩
  have hcnt2 : cntU (canon l.toArray.size m) n = n - m := by
    have : ∀ q, q ≤ n → cntU (canon l.toArray.size m) q = q - m := fun q => by
      induction q with
      | zero => intro _; simp [cntU]
      | succ q ih =>
        intro hq
        have h0 := ih (by omega)
        simp only [cntU]
        have hql : q < l.length := by omega
        by_cases c : q < m
        · have : (canon l.toArray.size m).getD q true = true := hcan q c
          rw [this]
          show cntU (canon l.toArray.size m) q + 0 = _
          omega
        · have : (canon l.toArray.size m).getD q true = false := by simp [canon, hql]; omega
          rw [this]
          show cntU (canon l.toArray.size m) q + 1 = _
          omega
    exact this n (Nat.le_refl _)
  have H := any_headM (P := P) (S := S) (n1 := m) (g := l.toArray.size - n) (vs := vs1 ++ vs2) (Q' := fun e a' w' => e = .normal ∧ ∃ K' n' S', Q S' ∧ Sim N K0 w0 S' K' n' a' w') hdN hD hs hc hn (by rw [List.length_append, hv1l, h1]; omega)
    (fun i o v hmi hi ho hv => by
      have ho2 : l[i]? = some o := by simpa using ho
      rw [List.getElem?_append_right (by omega), hv1l] at hv
      have hq := h2 (i - m) o v (by rw [List.getElem?_drop, show m + (i - m) = i by omega, List.getElem?_take, if_pos hi]; exact ho2) hv
      have e1 : (vs1 ++ vs2).take i = vs1 ++ vs2.take (i - m) := by rw [List.take_append, hv1l, List.take_of_length_le (by omega)]
      rw [show l.toArray.toList = l from rfl, hsplit i hmi (by omega), e1, foldS_app _ _ _ _ _ (by rw [hv1l]; simp; omega)]
      obtain ⟨c1, c2⟩ := foldS_congr (((l.take n).drop m).take (i - m)) (vs2.take (i - m)) S (foldS S (l.take m) vs1) hsg hsm
      exact hq.congr c1 c2)
    (fun T K nm a w hi hsim => by
      have hallc : ∀ j, j < n → (canon l.toArray.size n).getD j true = true := fun j hj => by
        have hjl : j < l.length := by omega
        simp [canon, hj, hjl]
      have hgetT : ∀ t, T.get t = (foldS S ((l.take n).drop m) vs2).get t := fun t => by
        by_cases hex : ∃ j, j < n ∧ dstAt l.toArray j = some t
        · obtain ⟨j, hj, hd⟩ := hex
          have huniq : ∀ k, k < n → dstAt l.toArray k = some t → k = j := fun k hk hdk => by
            obtain ⟨_, _, _, hdk'⟩ := discB_spec hD hk
            rcases (hdk' j t hj hd).1 with h | h
            · exact h
            · exact absurd hdk h
          obtain ⟨oj, hoj, hdj⟩ : ∃ oj, l[j]? = some oj ∧ oj.dst = some t := by
            unfold dstAt at hd
            cases hoj : l.toArray[j]? with
            | none => rw [hoj] at hd; cases hd
            | some oj => exact ⟨oj, by simpa using hoj, by rw [hoj] at hd; exact hd⟩
          have hvl : (vs1 ++ vs2).length = n := by rw [List.length_append, hv1l, h1]; omega
          have hvj : j < (vs1 ++ vs2).length := by omega
          rw [hi.got j t _ hj (hallc j hj) hd (List.getElem?_eq_getElem hvj)]
          by_cases c : j < m
          · have hv : vs1[j]? = some (vs1 ++ vs2)[j] := by rw [← List.getElem?_append_left (l₂ := vs2) (by omega)]; exact List.getElem?_eq_getElem hvj
            rw [hv1g j oj t _ hoj hdj hv]
            symm
            refine foldS_get_no _ _ S t (fun k o ho hdk => ?_)
            rw [List.getElem?_drop, List.getElem?_take] at ho
            split at ho
            · rename_i hk
              have := huniq (m + k) hk (by simp [dstAt, ho, hdk])
              omega
            · cases ho
          · symm
            refine foldS_get _ _ S t (j - m) oj _ (by rw [List.getElem?_drop, show m + (j - m) = j by omega, List.getElem?_take, if_pos hj]; exact hoj) (by rw [← List.getElem?_eq_getElem hvj, List.getElem?_append_right (by omega), hv1l]) hdj (fun k o hk ho hdk => ?_)
            rw [List.getElem?_drop, List.getElem?_take] at ho
            split at ho
            · rename_i hk2
              have := huniq (m + k) hk2 (by simp [dstAt, ho, hdk])
              omega
            · cases ho
        · rw [hi.no t (fun k hk _ hdk => hex ⟨k, hk, hdk⟩)]
          symm
          refine foldS_get_no _ _ S t (fun k o ho hdk => ?_)
          rw [List.getElem?_drop, List.getElem?_take] at ho
          split at ho
          · rename_i hk
            exact hex ⟨m + k, hk, by simp [dstAt, ho, hdk]⟩
          · cases ho
      have hmem : T.mem = (foldS S ((l.take n).drop m) vs2).mem := hi.mem.trans (foldS_boxes _ _ S).symm
      have hw : T.wk (foldS S ((l.take n).drop m) vs2) := by
        refine ⟨⟨fun t => .inl (.inl (hgetT t).symm), fun d A hd => ?_⟩, fun d cs' hd => ⟨cs', ?_, rfl, fun i c c' q1 q2 => ?_⟩⟩
        · rw [St.mem_arrs hmem]; exact hd
        · rw [St.mem_boxes hmem]; exact hd
        · rw [q1] at q2; injection q2 with q2; exact .inl q2.symm
      have hsim' := hsim.weak hw (fun d c c' q1 q2 => by rw [← St.mem_boxes hmem] at q1 q2; exact hsim.boxOne d c c' q1 q2)
      exact tail_seq hn' hseq h3 hsim')
    (n - m) (canon l.toArray.size m) S K nm a w hcnt2 hcan inv0
    ⟨rfl, fun j t v hj hl hd hv => by
      have hjm : j < m := by
        have hjl : j < l.length := by omega
        simpa [canon, hjl] using hl
      obtain ⟨oj, hoj, hdj⟩ : ∃ oj, l[j]? = some oj ∧ oj.dst = some t := by
        unfold dstAt at hd
        cases hoj : l.toArray[j]? with
        | none => rw [hoj] at hd; cases hd
        | some oj => exact ⟨oj, by simpa using hoj, by rw [hoj] at hd; exact hd⟩
      rw [List.getElem?_append_left (by omega)] at hv
      exact (hv1g j oj t v hoj hdj hv).symm, fun t _ => rfl⟩ hsim
  rwa [show n - m + (l.toArray.size - n) = l.toArray.size - m by omega] at H

theorem canon_zero (M : Nat) : canon M 0 = Array.replicate M false := by
  apply Array.ext_getElem?
  intro i
  by_cases c : i < M
  · simp [canon, c]
  · simp [canon, c]
theorem CT.drawM {QE : Exit → St → Prop} {id d n : Nat} {x : Operand} {v : AV} {l : List Oper} {tm : List (Nat × AV)} {bs : List (Nat × List AV)} {ar : List (Nat × Arr)} {ty : TypeId} {pos : String} {aft : Array Edge} (hm : P.follows .mixedOrders = true)
    (h0 : l[0]? = some ⟨some d, .move x, ty, pos, aft, none⟩) (hsel : Region.noSelect l.toArray = true) (hfree : Region.free .any l.toArray (Array.replicate l.toArray.size false) 0 = true) (hready : (Region.ready .any l.toArray (Array.replicate l.toArray.size false)).contains 0 = true)
    (hn : 1 ≤ n) (hB : headMB l.toArray N 1 n = true) (hd : d < N) (hx : St.opv ⟨tm, bs, ar⟩ x = v)
    (h : HT P N K0 w0 l.toArray ((l.take n).drop 1) ⟨(d, v) :: tm, bs, ar⟩ fun S' => LT P N K0 w0 l.toArray (l.drop n) S' fun S'' => QE .normal S'') : CT P N K0 w0 (.region id l.toArray true) ⟨tm, bs, ar⟩ QE := by
  intro K nm a w hsim
  have hsz : 0 < l.length := (List.getElem?_eq_some_iff.1 h0).1
  refine wp_mono (wp_region_any hm ?_) (Q := fun e a' w' => e = .normal ∧ ∃ K' n' S', QE .normal S' ∧ Sim N K0 w0 S' K' n' a' w') ?_
  · have hdrew := hsim.drew
    have hmv : Rep K nm v (a.eval x) := by rw [← hx]; exact hsim.opv x
    have hs1 : Sim N K0 w0 ⟨(d, v) :: tm, bs, ar⟩ K nm (a.put (some d) (a.eval x)) { w with drawn := w.drawn + 1 } := hdrew.put hd hmv (fun r e k xs hr => St.opv_has (x := x) (by rw [hx]; exact hr))
    have h1 := draw_fromM 1 n hn hB h hs1
    rw [show l.toArray.size = (l.toArray.size - 1) + 1 by simp; omega] 
    refine wpAny_take (i := 0) (v := a.eval x) (by simpa using h0) hsel (by simpa [show l.length - 1 + 1 = l.length by omega] using hfree) (by simpa [show l.length - 1 + 1 = l.length by omega] using hready) (fun c a w hq => by cases hq.1) (.inl ⟨rfl, fun w => rfl⟩) ?_
    rw [show (l.toArray.size - 1) + 1 = l.toArray.size by simp; omega, ← canon_zero, canon_set]
    exact h1
  · rintro e a' w' ⟨rfl, K', n', S', h1, h2⟩
    exact ⟨K', n', S', h1, h2⟩
end
end Go.Proofs.Ytkfmammkbmhfaaa
