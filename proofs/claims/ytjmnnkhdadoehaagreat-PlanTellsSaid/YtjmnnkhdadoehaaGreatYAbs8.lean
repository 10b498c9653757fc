/- Abstract walks: loops over functions. -/
import Derived.Test.YtjmnnkhdadoehaaGreatYAbs6
import Derived.TacticsIn
import Derived.OrdersIn
import Derived.RangeFuncNested
import Derived.ScopeJumps
namespace Go.Proofs.YtjmnnkhdadoehaaGreat
set_option linter.unusedSimpArgs false
set_option linter.unusedVariables false
open Go Go.RowKit Go.Shelf

section
variable {P : Program} {n : Nat} {Q : Exit → Act → World → Prop} {a : Act} {w : World}
def noDefer (o : Oper) : Bool := match o.op with | .defer _ => false | _ => true
theorem noDefer_ne {o : Oper} (h : noDefer o = true) : ∀ c, o.op ≠ .defer c := fun c e => by simp [noDefer, e] at h
theorem operIn {o : Oper} (l : Nat) {next : Act → World → Prop} (hnd : noDefer o = true) (h : o.wp P a w next Q) : o.wpIn (Fence.wide.inRound l) n P a w next Q := by
  refine ⟨fun _ _ => trivial, ?_⟩
  rw [Fence.inRound_round, Oper.semAt_some l a.eval o (noDefer_ne hnd)]
  unfold Oper.wp at h
  revert h
  generalize (execOp a.eval o).run P w = r
  intro h
  cases r with
  | ok x w' =>
    cases x with
    | value v => exact h
    | skip => exact h
    | defer d => exact h
    | enter f args => exact ⟨fun hh => (by cases hh), CallsIn.inRound l (callsIn_wide.2 h)⟩
    | row row args => exact ⟨fun hh => (by cases hh), fun c cs _ => by
        obtain ⟨v, w'', q1, q2⟩ := h c cs
        exact ⟨v, w'', q1, (StepsIn.of_steps q2).mono fun m _ => by
          intro g hg
          exact fenced_wide P m g hg⟩⟩
    | _ => exact h.elim
  | halt x w' => cases x <;> exact h
theorem listIn {ops : Array Oper} (l : Nat) (hQ : ¬ LetsOut Q) : ∀ (os : List Oper) (a : Act) (w : World), os.all noDefer = true → wpList P ops Q os a w → wpListIn (Fence.wide.inRound l) n P ops Q os a w
  | [], _, _, _, h => h
  | o :: os, a, w, hnd, h => by
    simp only [List.all_cons, Bool.and_eq_true] at hnd
    simp only [wpList] at h
    simp only [wpListIn]
    split
    · rename_i hw
      rw [if_pos hw] at h
      rcases h with h | ⟨_, h⟩
      · exact Oper.wpIn_mono (fun a' w' h' => listIn l hQ os a' w' hnd.2 h') (operIn l hnd.1 h)
      · exact absurd h hQ
    · rename_i hw
      rw [if_neg hw] at h
      exact ⟨fun _ _ => trivial, listIn l hQ os _ _ hnd.2 h⟩
theorem anyIn {ops : Array Oper} {md : Region.Mode} (l : Nat) (hQ : ¬ LetsOut Q) (hnd : ops.all noDefer = true) : ∀ (f : Nat) (listed : Array Bool) (a : Act) (w : World), wpAny P md ops Q f listed a w → wpAnyIn (Fence.wide.inRound l) n P md ops Q f listed a w
  | 0, _, _, _, h => h
  | f + 1, listed, a, w, h => by
    refine ⟨h.1, fun i hi => ?_⟩
    have h1 := h.2 i hi
    unfold wpOp at h1
    unfold wpOpIn
    cases ho : ops[i]? with
    | none => simp only [ho] at h1 ⊢; exact anyIn l hQ hnd f _ a w h1
    | some o =>
      simp only [ho] at h1 ⊢
      have hno : noDefer o = true := (Array.all_eq_true_iff_forall_mem.1 hnd) o (Array.mem_of_getElem? ho)
      split
      · rename_i hw
        rw [if_pos hw] at h1
        rcases h1 with h1 | ⟨_, h1⟩
        · exact Oper.wpIn_mono (fun a' w' h' => anyIn l hQ hnd f _ a' w' h') (operIn l hno h1)
        · exact absurd h1 hQ
      · rename_i hw
        rw [if_neg hw] at h1
        exact ⟨fun _ _ => trivial, anyIn l hQ hnd f _ _ w h1⟩
end

theorem LT.mono {P : Program} {N : Nat} {K0 : Know} {w0 : Bas} {ops : Array Oper} {l : List Oper} {S : St} {Q Q' : St → Prop} (h : LT P N K0 w0 ops l S Q) (hq : ∀ S', Q S' → Q' S') : LT P N K0 w0 ops l S Q' := fun K n a w hs =>
  wpList_mono_ (fun e a' w' ⟨h1, K', n', S', h2, h3⟩ => ⟨h1, K', n', S', hq _ h2, h3⟩) _ _ _ (h K n a w hs)
/-! ### Code in a round -/
def CTI (l : Nat) (P : Program) (N : Nat) (K0 : Know) (w0 : Bas) (c : Code) (S : St) (Q : Exit → St → Prop) : Prop :=
  ∀ n K nm a w, Sim N K0 w0 S K nm a w → c.wpIn (Fence.wide.inRound l) n P (fun e a' w' => ∃ K' n' S', Q e S' ∧ Sim N K0 w0 S' K' n' a' w') a w
section
variable {l : Nat} {P : Program} {N : Nat} {K0 : Know} {w0 : Bas} {S S' : St} {QE : Exit → St → Prop} {c c1 c2 : Code} {tm : List (Nat × AV)} {bs : List (Nat × List AV)} {ar : List (Nat × Arr)} {x : Operand}
theorem CTI.mono {QE' : Exit → St → Prop} (h : CTI l P N K0 w0 c S QE) (hq : ∀ e S, QE e S → QE' e S) : CTI l P N K0 w0 c S QE' :=
  fun n K nm a w hs => wpIn_mono (h n K nm a w hs) fun _ _ _ ⟨K', n', S', h1, h2⟩ => ⟨K', n', S', hq _ _ h1, h2⟩
theorem CTI.seq1 (h : CTI l P N K0 w0 c1 ⟨tm, bs, ar⟩ (thenA (fun S' => CTI l P N K0 w0 c2 S' QE) QE)) : CTI l P N K0 w0 (c1.seq c2) ⟨tm, bs, ar⟩ QE := by
  intro n K nm a w hs
  refine wpIn_seq (wpIn_mono (h n K nm a w hs) ?_)
  rintro e a' w' ⟨K', n', S', h1, h2⟩
  cases e with
  | normal => exact h1 n K' n' a' w' h2
  | exit id => exact ⟨K', n', S', h1, h2⟩
  | goto id => exact ⟨K', n', S', h1, h2⟩
  | ret => exact ⟨K', n', S', h1, h2⟩
  | panic ch => exact ⟨K', n', S', h1, h2⟩
  | outgrown => exact ⟨K', n', S', h1, h2⟩
theorem CTI.skip (h : QE .normal S) : CTI l P N K0 w0 .skip S QE := fun n K nm a w hs => wpIn_skip ⟨K, nm, S, h, hs⟩
theorem CTI.exit {id : Nat} (h : QE (.exit id) S) : CTI l P N K0 w0 (.exit id) S QE := fun n K nm a w hs => wpIn_exit ⟨K, nm, S, h, hs⟩
theorem CTI.ret (h : QE .ret S) : CTI l P N K0 w0 .ret S QE := fun n K nm a w hs => wpIn_ret ⟨K, nm, S, h, hs⟩
theorem CTI.cond {t : Bool} (hc : S.opv x = .val (.bool t)) (ht : t = true → CTI l P N K0 w0 c1 S QE) (hf : t = false → CTI l P N K0 w0 c2 S QE) : CTI l P N K0 w0 (.cond x c1 c2) S QE := by
  intro n K nm a w hs
  have h1 := hs.opv x
  rw [hc] at h1
  exact wpIn_cond_split h1 (fun e => ht e n K nm a w hs) (fun e => hf e n K nm a w hs)
theorem CTI.condT (hc : St.opv ⟨tm, bs, ar⟩ x = .val (.bool true)) (h : CTI l P N K0 w0 c1 ⟨tm, bs, ar⟩ QE) : CTI l P N K0 w0 (.cond x c1 c2) ⟨tm, bs, ar⟩ QE := CTI.cond hc (fun _ => h) (fun e => by cases e)
theorem CTI.condF (hc : St.opv ⟨tm, bs, ar⟩ x = .val (.bool false)) (h : CTI l P N K0 w0 c2 ⟨tm, bs, ar⟩ QE) : CTI l P N K0 w0 (.cond x c1 c2) ⟨tm, bs, ar⟩ QE := CTI.cond hc (fun e => by cases e) (fun _ => h)
theorem CTI.condD {q : Prop} [Decidable q] (hc : St.opv ⟨tm, bs, ar⟩ x = .val (.bool (decide q))) (ht : q → CTI l P N K0 w0 c1 ⟨tm, bs, ar⟩ QE) (hf : ¬ q → CTI l P N K0 w0 c2 ⟨tm, bs, ar⟩ QE) : CTI l P N K0 w0 (.cond x c1 c2) ⟨tm, bs, ar⟩ QE :=
  CTI.cond hc (fun h => ht (of_decide_eq_true h)) (fun h => hf (of_decide_eq_false h))
theorem CTI.block {id : Nat} (h : CTI l P N K0 w0 c S (blockA id QE)) : CTI l P N K0 w0 (.block id c) S QE := by
  intro n K nm a w hs
  refine wpIn_block (wpIn_mono (h n K nm a w hs) ?_)
  rintro e a' w' ⟨K', n', S', h1, h2⟩
  cases e with
  | exit id' =>
    by_cases e : id' = id
    · subst e
      have : (Nat.beq id' id') = true := Nat.beq_refl id'
      simp only [blockA, this, cond_true] at h1
      simp only [Exit.inBlock, if_true]
      exact ⟨K', n', S', h1, h2⟩
    · have : Nat.beq id' id = false := by
        cases e' : Nat.beq id' id with
        | false => rfl
        | true => exact absurd (Nat.eq_of_beq_eq_true e') e
      simp only [blockA, this, cond_false] at h1
      simp only [Exit.inBlock, e, if_false]
      exact ⟨K', n', S', h1, h2⟩
  | normal => exact ⟨K', n', S', h1, h2⟩
  | goto id => exact ⟨K', n', S', h1, h2⟩
  | ret => exact ⟨K', n', S', h1, h2⟩
  | panic ch => exact ⟨K', n', S', h1, h2⟩
  | outgrown => exact ⟨K', n', S', h1, h2⟩
theorem CTI.region {id : Nat} {os : List Oper} (hnd : os.all noDefer = true) (h : LT P N K0 w0 os.toArray os S (fun S' => QE .normal S')) : CTI l P N K0 w0 (.region id os.toArray false) S QE := by
  intro n K nm a w hs
  refine wpIn_mono (wpIn_region_lit (listIn l (by rintro ⟨a2, w2, e, _⟩; cases e) os a w hnd (h K nm a w hs))) ?_
  rintro e a' w' ⟨rfl, K', n', S', h1, h2⟩
  exact ⟨K', n', S', h1, h2⟩
theorem CTI.draw {id : Nat} {os : List Oper} (m : Nat) (hm : P.follows .mixedOrders = true) (hB : headB os.toArray N m = true) (hnd : os.all noDefer = true)
    (h : HT P N K0 w0 os.toArray (os.take m) S fun S' => LT P N K0 w0 os.toArray (os.drop m) S' fun S'' => QE .normal S'') : CTI l P N K0 w0 (.region id os.toArray true) S QE := by
  intro n K nm a w hs
  refine wpIn_mono (wpIn_region_any hm (anyIn l (by rintro ⟨a2, w2, e, _⟩; cases e) (by simpa using hnd) _ _ a _ (draw_any m hB h hs))) ?_
  rintro e a' w' ⟨rfl, K', n', S', h1, h2⟩
  exact ⟨K', n', S', h1, h2⟩
theorem CTI.seqD {id : Nat} {os : List Oper} (m : Nat) (hm : P.follows .mixedOrders = true) (hB : headB os.toArray N m = true) (hnd : os.all noDefer = true)
    (h : HT P N K0 w0 os.toArray (os.take m) ⟨tm, bs, ar⟩ fun S' => LT P N K0 w0 os.toArray (os.drop m) S' fun S'' => CTI l P N K0 w0 c2 S'' QE) : CTI l P N K0 w0 ((Code.region id os.toArray true).seq c2) ⟨tm, bs, ar⟩ QE := CTI.seq1 (CTI.draw m hm hB hnd h)
theorem CTI.seqR {id : Nat} {os : List Oper} (hnd : os.all noDefer = true) (h : LT P N K0 w0 os.toArray os ⟨tm, bs, ar⟩ (fun S' => CTI l P N K0 w0 c2 S' QE)) : CTI l P N K0 w0 ((Code.region id os.toArray false).seq c2) ⟨tm, bs, ar⟩ QE := CTI.seq1 (CTI.region hnd h)
end
end Go.Proofs.YtjmnnkhdadoehaaGreat

/- Abstract walks: the loop over a function, as a whole. -/
namespace Go.Proofs.YtjmnnkhdadoehaaGreat
set_option linter.unusedSimpArgs false
set_option linter.unusedVariables false
open Go Go.RowKit Go.Shelf

structure Book (w W : World) (r : Loop) : Prop where
  rec_ : W.heap[w.heap.size + 1]? = some (.loop r)
  off : W.heap[w.heap.size]? = some (.deferred (some []))
theorem Book.keep {w W W' : World} {r : Loop} (h : Book w W r) (hk : KeepsFrom w.heap.size W W') : Book w W' r := ⟨hk.same _ _ (Nat.le_succ _) h.rec_ rfl, hk.same _ _ (Nat.le_refl _) h.off rfl⟩
theorem Book.set {w W : World} {r r' : Loop} (h : Book w W r) : Book w (W.putObj (w.heap.size + 1) (.loop r')) r' :=
  ⟨World.putObj_heap_same (Array.getElem?_eq_some_iff.1 h.rec_).1, (World.putObj_heap_other (by omega)).trans h.off⟩
section
variable {α : Type} {P : Program} {Q : Exit → Act → World → Prop} {a : Act} {w : World}
theorem range_joint {g : Operand} {ps : Array Tmp} {assign body : Code} {gf : Nat} {lb : Array Value} (hg : a.eval g = .func (.func gf) #[] lb) (eg : ∀ args w, (callFunc gf args).run P w = .ok (.enter gf args) w)
    {encs : α → Array Value} {Kp : World → World → Prop} {Sd Sp : List α → Prop} {M : Nat} (hseq : SeqStopsK Fence.wide 2 P gf lb encs Kp Sd Sp M w)
    (hKt : ∀ {A B C : World}, Kp A B → Kp B C → Kp A C) (hKb : ∀ (W : World) (l : Nat) (o o' : Obj), W.heap[l]? = some o → o.isCells = false → Kp W (W.putObj l o')) (hps : ∀ x, (encs x).size = ps.size)
    (I : List α → World → Prop) (Ix : Code → List α → World → Prop) (J : List α → α → Act → World → Prop) (hI : OwnFrom w.heap.size I) (hIx : ∀ c, OwnFrom w.heap.size (Ix c)) (hJ : ∀ pre x a', OwnFrom w.heap.size (fun (_ : Unit) W => J pre x a' W)) (h0 : I [] w)
    (hassign : ∀ (l : Nat) (pre : List α) (x : α) (W : World), I pre W → assign.wpIn (Fence.wide.inRound l) 1 P (fun e a' W' => e = .normal ∧ KeepsFrom w.heap.size W W' ∧ Kp W W' ∧ J pre x a' W') { tmps := (ps.zip (encs x)).foldl (fun t (p, v) => t.setIfInBounds p v) a.tmps, defers := [] } W)
    (hbody : ∀ (l : Nat) (pre : List α) (x : α) (a' : Act) (W : World), J pre x a' W → pre.length < M → body.wpIn (Fence.wide.inRound l) 1 P (ownPostG w.heap.size Kp I Ix (pre ++ [x]) W) a' W)
    (hdone : ∀ (xs : List α) (W : World), Sd xs → I xs W → W.heap[w.heap.size]? = some (.deferred (some [])) → Q .normal { a with defers := mark w.heap.size :: a.defers } W)
    (hstop : ∀ (c : Code) (pre : List α) (W : World), Sp pre → Ix c pre W → W.heap[w.heap.size]? = some (.deferred (some [])) → c.wpIn Fence.wide 3 P Q { a with defers := mark w.heap.size :: a.defers } W) :
    (Code.rangeFunc g ps assign body).wpIn Fence.wide 3 P Q a w := by
  refine wpIn_rangeFunc fun fn hfn => ?_
  -- the record as it is laid
  let R : LoopState → Option Code → Loop := fun st pe => { state := st, pending := pe, fn, tmps := a.tmps, params := ps, assign, body, defers := w.heap.size }
  let W1 : World := (w.alloc (.deferred (some []))).alloc (.loop (R .ready none))
  have hB1 : Book w W1 (R .ready none) := ⟨by have := World.alloc_heap_new (w.alloc (.deferred (some []))) (.loop (R .ready none)); rwa [World.size_alloc] at this, (Below.heap_alloc _ _ _ (by simp)).trans (World.alloc_heap_new w _)⟩
  have hW1 : w.heap.size ≤ W1.heap.size := by simp [W1]; omega
  have hbel : Below w.heap.size w W1 := (((Below.refl _ w).alloc (Nat.le_refl _) _).alloc (by simp) _)
  refine ⟨w.heap.size + 1, [mark w.heap.size], W1, { target := .fn (.func gf) lb, args := #[.func (.yield (w.heap.size + 1)) #[] #[]] }, W1, gf, #[.func (.yield (w.heap.size + 1)) #[] #[]] ++ lb, W1,
    run_enterLoop_outer _ _ _ _ _, by simp only [resolve, hg]; simp [go_sem], fun _ _ => trivial, by simp [invoke, go_sem, eg], (fun hh => by cases hh), ?_⟩
  have keepB : ∀ {β : Type} {X : β → World → Prop} (r : Loop), OwnFrom w.heap.size X → AbidesFrom W1.heap.size (fun s W => X s W ∧ Book w W r) := fun r hX s A B row hs hgr hr => by
    have hr' : ∀ q, row = some q → w.heap.size ≤ q ∧ ∃ o : Obj, A.heap[q]? = some o ∧ o.isCells = false := fun q e => by
      obtain ⟨h1, o, h2, h3⟩ := hr q e
      exact ⟨Nat.le_trans hW1 h1, o, h2, Obj.not_cells_of_walk h3⟩
    exact ⟨hX s A B row hs.1 hgr hr', (grownBy_keeps hgr (fun q e => (hr q e).2) hs.2.rec_ rfl).trans hs.2.rec_, (grownBy_keeps hgr (fun q e => (hr q e).2) hs.2.off rfl).trans hs.2.off⟩
  refine (hseq (w.heap.size + 1) (fun pre W => I pre W ∧ Book w W (R .ready none)) (fun pre W => ∃ c, Ix c pre W ∧ Book w W (R .done (some c))) W1 hbel (keepB _ hI)
    (fun s A B row ⟨c, hc⟩ hgr hr => ⟨c, keepB (R .done (some c)) (hIx c) s A B row hc hgr hr⟩) ?_ ⟨hI.alloc _ (hI.alloc _ h0), hB1⟩).mono ?_
  · rintro pre x W ⟨hi, hbk⟩ hlen
    refine ⟨fn, _, assign, body, run_yield hbk.rec_ (hps x), roundIn_of_wpIn hfn (wpIn_mono (hassign _ pre x W hi) ?_)⟩
    rintro e a' Wa ⟨rfl, hk1, hp1, hj⟩
    have hbk1 := hbk.keep hk1
    have hbk2 : Book w (Wa.putObj (w.heap.size + 1) (.loop (R .busy none))) (R .busy none) := hbk1.set
    refine ⟨_, run_beginRound hbk1.rec_ rfl, wpIn_mono (hbody _ pre x a' _ ((hJ pre x a').putObj (s := ()) _ hj (Nat.le_succ _) hbk1.rec_ rfl) hlen) ?_⟩
    have hp2 : Kp W (Wa.putObj (w.heap.size + 1) (.loop (R .busy none))) := hKt hp1 (hKb _ _ _ _ hbk1.rec_ rfl)
    have leave : ∀ (c : Code) (W3 : World), KeepsFrom w.heap.size (Wa.putObj (w.heap.size + 1) (.loop (R .busy none))) W3 → Ix c (pre ++ [x]) W3 → ∃ v w', (Instr.endRound (w.heap.size + 1) (some c)).run P W3 = .ok v w' ∧
        ((Ending.returned v = .returned (.bool true) ∧ (I (pre ++ [x]) w' ∧ Book w w' (R .ready none)) ∧ Kp W w') ∨ (Ending.returned v = .returned (.bool false) ∧ ∃ c, Ix c (pre ++ [x]) w' ∧ Book w w' (R .done (some c)))) := fun c W3 hk3 hx3 => by
      have hbk3 := hbk2.keep hk3
      exact ⟨_, _, run_endRound (some c) hbk3.rec_, .inr ⟨rfl, c, (hIx c).putObj _ hx3 (Nat.le_succ _) hbk3.rec_ rfl, hbk3.set⟩⟩
    rintro e a3 W3 hp
    cases e with
    | normal =>
      obtain ⟨hk3, hp3, hi3⟩ := hp
      have hbk3 := hbk2.keep hk3
      exact ⟨_, _, run_endRound none hbk3.rec_, .inl ⟨rfl, ⟨hI.putObj _ hi3 (Nat.le_succ _) hbk3.rec_ rfl, hbk3.set⟩, hKt (hKt hp2 hp3) (hKb _ _ _ _ hbk3.rec_ rfl)⟩⟩
    | ret => exact leave _ W3 hp.1 hp.2
    | exit id => exact leave _ W3 hp.1 hp.2
    | goto t => exact leave _ W3 hp.1 hp.2
    | panic ch => exact hp.elim
    | outgrown => exact hp.elim
  · rintro e W2 ⟨⟨v, rfl⟩, (⟨xs, hS, hi, hbk⟩ | ⟨pre, hSp, c, hx, hbk⟩)⟩
    · exact ⟨none, _, run_endLoop hbk.rec_ (by simp [R]), hdone xs _ hS (hI.putObj _ hi (Nat.le_succ _) hbk.rec_ rfl) ((World.putObj_heap_other (by omega)).trans hbk.off)⟩
    · exact ⟨some c, _, run_endLoop hbk.rec_ (by simp [R]), hstop c pre _ hSp ((hIx c).putObj _ hx (Nat.le_succ _) hbk.rec_ rfl) ((World.putObj_heap_other (by omega)).trans hbk.off)⟩
end

/-! ### Over abstract states -/
def KpK (K : Know) (W W' : World) : Prop := ∀ b o u, K b o = some u → W.cell? ⟨b, o, none⟩ = some u → W'.cell? ⟨b, o, none⟩ = some u
theorem KpK.trans {K : Know} {A B C : World} (h : KpK K A B) (h' : KpK K B C) : KpK K A C := fun b o u hk hc => h' b o u hk (h b o u hk hc)
theorem KpK.turn {K : Know} (W : World) (l : Nat) (o o' : Obj) (h : W.heap[l]? = some o) (hc : o.isCells = false) : KpK K W (W.putObj l o') := fun b i u _ hcell => by
  have hne : b ≠ l := by
    rintro rfl
    simp only [World.cell?, h] at hcell
    cases o <;> simp_all [Obj.isCells]
  simp only [World.cell?, heap_putObj W l o' hne] at hcell ⊢
  exact hcell
def St.noRows (S : St) : Prop := ∀ r e k xs, ¬ S.has (.row r e k xs)
theorem own_less {w : World} {base base' e k : Nat} {v : Value} {m : Nat} {cs : List Value} (h : w.ownsRow base e k v m cs) (hb : base' ≤ base) : w.ownsRow base' e k v m cs := by
  refine ⟨h.1, ?_⟩
  rcases h.2 with h | ⟨g, cap, cur, q1, q2, q3⟩
  · exact .inl h
  · exact .inr ⟨g, cap, cur, q1, Nat.le_trans hb q2, q3⟩
section
variable {P : Program} {N : Nat} {K0 : Know} {w0 : Bas} {S S' : St} {K K' : Know} {n n' : Nm} {a a' : Act} {W W' : World}
noncomputable def Bas.at (w0 : Bas) (N : Nat) (W : World) (n : Nm) (S : St) : Bas := ⟨W, foot n S.boxes S.arrs, fun d => if N ≤ d ∧ hasB S.boxes d = true then n.β d else w0.β d, false⟩
theorem Sim.foot_own (hs : Sim N K0 w0 S K n a W) {b : Nat} (h : foot n S.boxes S.arrs b) : w0.isOwn b ∧ ∃ c t f, W.heap[b]? = some (.cells c t f) := by
  rcases h with ⟨d, cs, hm, hn⟩ | ⟨d, A, hm, hn⟩
  · obtain ⟨b', arr, ty, q1, q2, q3, _⟩ := hs.box d cs hm
    rw [hn] at q1; injection q1 with q1; subst q1
    exact ⟨q2, _, _, _, q3⟩
  · obtain ⟨q1, q2, q3⟩ := hs.arr d A hm
    exact ⟨(q3 b hn).1, own_cells q1 b hn⟩
theorem Sim.rebase (hs : Sim N K0 w0 S K n a W) (hnr : S.noRows) : Sim N K (w0.at N W n S) S K n a W where
  size := hs.size
  defers := fun h => by cases h
  below := ⟨rfl, rfl, rfl, Nat.le_refl _, fun _ _ _ => rfl⟩
  k0 := Know.le_refl K
  knew := fun _ _ _ h _ => h
  ok := hs.ok
  tmp := hs.tmp
  box := fun d cs hm => by
    obtain ⟨b, arr, ty, q1, _, q3⟩ := hs.box d cs hm
    exact ⟨b, arr, ty, q1, .inr (.inl ⟨d, cs, hm, q1⟩), q3⟩
  boxInj := hs.boxInj
  boxOne := hs.boxOne
  row := fun r e k xs h => absurd h (hnr r e k xs)
  rowInj := fun r e k xs r' e' k' xs' g h => absurd h (hnr r e k xs)
  arr := fun d A hm => by
    obtain ⟨q1, q2, q3⟩ := hs.arr d A hm
    exact ⟨q1, q2, fun g hg => ⟨.inr (.inr ⟨d, A, hm, hg⟩), (q3 g hg).2⟩⟩
  arrInj := hs.arrInj
  arrOne := hs.arrOne
  fix := fun d b hb => by
    simp only [Bas.at] at hb
    split at hb
    · rename_i h; exact ⟨hb, h.1⟩
    · exact hs.fix d b hb
theorem Sim.unbase (ht : w0.top = false) (hs : Sim N K0 w0 S K n a W) (h : Sim N K (w0.at N W n S) S' K' n' a' W') : Sim N K0 w0 S' K' n' a' W' ∧ KeepsOthers W W' ∧ KpK K W W' ∧ K.le K' ∧ ∀ d, N ≤ d → hasB S.boxes d = true → n'.β d = n.β d := by
  have hblk : ∀ b, b < W.heap.size → ¬ foot n S.boxes S.arrs b → W'.heap[b]? = W.heap[b]? := h.below.block
  have hbase : w0.w.heap.size ≤ W.heap.size := hs.base
  have hown : ∀ b, (w0.at N W n S).isOwn b → w0.isOwn b := fun b hb => by
    rcases hb with hb | hb
    · exact .inl (Nat.le_trans hbase hb)
    · exact (hs.foot_own hb).1
  refine ⟨{
    size := h.size
    defers := fun h => by rw [ht] at h; cases h
    below := hs.below.step h.below.os h.below.tape h.below.output h.below.size fun b hb hno => hblk b (Nat.lt_of_lt_of_le hb hbase) (fun hf => by
      rcases (hs.foot_own hf).1 with q | q
      · omega
      · exact hno q)
    k0 := Know.le_trans hs.k0 h.k0
    knew := fun b o u hu hlt => hs.knew b o u (h.knew b o u hu (Nat.lt_of_lt_of_le hlt hbase)) hlt
    ok := h.ok
    tmp := h.tmp
    box := fun d cs hm => by
      obtain ⟨b, arr, ty, q1, q2, q3⟩ := h.box d cs hm
      exact ⟨b, arr, ty, q1, hown b q2, q3⟩
    boxInj := h.boxInj
    boxOne := h.boxOne
    row := fun r e k xs hr => by
      obtain ⟨q1, q2⟩ := h.row r e k xs hr
      exact ⟨own_less q1 hbase, q2⟩
    rowInj := h.rowInj
    arr := fun d A hm => by
      obtain ⟨q1, q2, q3⟩ := h.arr d A hm
      exact ⟨q1, q2, fun g hg => ⟨hown g (q3 g hg).1, (q3 g hg).2⟩⟩
    arrInj := h.arrInj
    arrOne := h.arrOne
    fix := fun d b hb => by
      obtain ⟨q1, q2⟩ := hs.fix d b hb
      refine ⟨(h.fix d b ?_).1, q2⟩
      simp only [Bas.at]
      split
      · exact q1
      · exact hb }, ⟨h.below.size, fun k o hk hc => ?_⟩, fun b o u hk _ => h.ok b o u (h.k0 b o u hk), h.k0, fun d hN hd => ?_⟩
  · rw [hblk k (Array.getElem?_eq_some_iff.1 hk).1 (fun hf => by
      obtain ⟨_, c, t, f, hcc⟩ := hs.foot_own hf
      rw [hk] at hcc; injection hcc with hcc; subst hcc; cases hc)]
    exact hk
  · obtain ⟨cs, hm⟩ := hasB_ex hd
    obtain ⟨b, _, _, q1, _⟩ := hs.box d cs hm
    rw [q1]
    exact (h.fix d b (by simp only [Bas.at]; rw [if_pos ⟨hN, hd⟩]; exact q1)).1
theorem round_walk {l m : Nat} {c : Code} {Q : Exit → St → Prop} (ht : w0.top = false) (hs : Sim N K0 w0 S K n a W) (hnr : S.noRows)
    (h : ∀ K1 (B : Bas), (∀ d, w0.β d = none → (N ≤ d → hasB S.boxes d = false) → B.β d = none) → CTI l P N K1 B c S Q) :
    c.wpIn (Fence.wide.inRound l) m P (fun e a' W' => ∃ K' n' S', Q e S' ∧ Sim N K0 w0 S' K' n' a' W' ∧ KeepsOthers W W' ∧ KpK K W W' ∧ K.le K' ∧ ∀ d, N ≤ d → hasB S.boxes d = true → n'.β d = n.β d) a W := by
  refine wpIn_mono (h K (w0.at N W n S) (fun d h1 h2 => by simp only [Bas.at]; rw [if_neg (fun hh => by rw [h2 hh.1] at hh; exact absurd hh.2 (by simp))]; exact h1) m K n a W (hs.rebase hnr)) ?_
  rintro e a' W' ⟨K', n', S', hq, hs'⟩
  obtain ⟨q1, q2⟩ := hs.unbase ht hs'
  exact ⟨K', n', S', hq, q1, q2⟩
theorem Sim.turned (hs : Sim N K0 w0 S K n a W) {row : Option Nat} (hg : W.grownBy W' row) (hr : ∀ r, row = some r → w0.w.heap.size ≤ r ∧ ∃ o : Obj, W.heap[r]? = some o ∧ o.isCells = false) (hd : w0.top = true → Marks w0 a W') : Sim N K0 w0 S K n a W' where
  size := hs.size
  defers := hd
  below := hs.below.step hg.os hg.tape hg.output hg.size fun b hb _ => hg.block b (Nat.lt_of_lt_of_le hb hs.below.size) (fun e => by have := (hr b e.symm).1; omega)
  k0 := hs.k0
  knew := hs.knew
  ok := fun b o u hu => cell_kept (hs.ok b o u hu) hg (fun r e => (hr r e).2)
  tmp := hs.tmp
  box := fun d cs hm => by
    obtain ⟨b, arr, ty, q1, q2, q3, q4⟩ := hs.box d cs hm
    exact ⟨b, arr, ty, q1, q2, (grownBy_keeps_cells hg (fun r e => (hr r e).2) q3 rfl).trans q3, q4⟩
  boxInj := hs.boxInj
  boxOne := hs.boxOne
  row := fun r e k xs hrow => by
    obtain ⟨q1, q2⟩ := hs.row r e k xs hrow
    refine ⟨⟨q1.1, ?_⟩, q2⟩
    rcases q1.2 with q | ⟨g, cap, cur, u1, u2, u3, u4⟩
    · exact .inl q
    · exact .inr ⟨g, cap, cur, u1, u2, (grownBy_keeps_cells hg (fun r e => (hr r e).2) u3 rfl).trans u3, u4⟩
  rowInj := hs.rowInj
  arr := fun d A hm => by
    obtain ⟨q1, q2, q3⟩ := hs.arr d A hm
    refine ⟨⟨q1.1, ?_⟩, q2, q3⟩
    rcases q1.2 with q | ⟨g, cap, cur, u1, u2, u3, u4⟩
    · exact .inl q
    · exact .inr ⟨g, cap, cur, u1, u2, (grownBy_keeps_cells hg (fun r e => (hr r e).2) u3 rfl).trans u3, u4⟩
  arrInj := hs.arrInj
  arrOne := hs.arrOne
  fix := hs.fix
end

/-! ### Boxes named anew -/
def AV.ren1 (σ : Nat → Nat) : AV → AV
  | .ptr d o => .ptr (σ d) o
  | .cloB f ds => .cloB f (ds.map fun p => (σ p.1, p.2))
  | A => A
def St.ren (S : St) (σ : Nat → Nat) : St := ⟨S.tmps.map fun p => (p.1, p.2.map1 (AV.ren1 σ)), S.boxes.map fun p => (σ p.1, p.2.map (AV.ren1 σ)), S.arrs⟩
section
variable {P : Program} {N : Nat} {K0 : Know} {w0 : Bas} {S S' : St} {K K' : Know} {n n' : Nm} {a a' : Act} {w : World} {σ τ : Nat → Nat}
theorem Rep1.ren (hτ : ∀ d, τ (σ d) = d) {A : AV} {c : Value} (h : Rep1 K n A c) : Rep1 K ⟨fun d => n.β (τ d), n.ρ⟩ (A.ren1 σ) c := by
  cases A with
  | ptr d o => obtain ⟨b, h1, h2⟩ := h; exact ⟨b, by simp only [hτ]; exact h1, h2⟩
  | cloB f ds =>
    obtain ⟨ps, e, h1, h2⟩ := h
    refine ⟨ps, e, by simpa using h1, fun i p d off hp hd => ?_⟩
    rw [List.getElem?_map, Option.map_eq_some_iff] at hd
    obtain ⟨q, hq, e2⟩ := hd
    injection e2 with e2 e3
    subst e2 e3
    obtain ⟨b, h3, h4⟩ := h2 i p q.1 q.2 hp hq
    exact ⟨b, by simp only [hτ]; exact h3, h4⟩
  | _ => exact h
theorem ren1_row {A : AV} {r e k : Nat} {xs : Cells} (h : A.ren1 σ = .row r e k xs) : A = .row r e k xs := by cases A <;> first | exact h | cases h
theorem Rep.ren (hτ : ∀ d, τ (σ d) = d) {A : AV} {c : Value} (h : Rep K n A c) : Rep K ⟨fun d => n.β (τ d), n.ρ⟩ (A.map1 (AV.ren1 σ)) c := by
  cases A with
  | tup vs =>
    obtain ⟨cs, e, h1, h2⟩ := h
    refine ⟨cs, e, by simpa using h1, fun i v hv => ?_⟩
    rw [List.getElem?_map, Option.map_eq_some_iff] at hv
    obtain ⟨u, hu, rfl⟩ := hv
    exact (h2 i u hu).ren hτ
  | ptr d o => exact Rep.of1 (Rep1.ren (A := .ptr d o) hτ h)
  | cloB f ds => exact Rep.of1 (Rep1.ren (A := .cloB f ds) hτ h)
  | dead => exact h
  | val v => exact h
  | sl k xs => exact h
  | full k xs => exact h
  | cptr vs => exact h
  | clo f cs => exact h
  | row r e k xs => exact h
  | pr p => exact h
  | arow d => exact h
  | aptr d k j o => exact h
  | asub d k l m => exact h
theorem ren_of {A : AV} {r e k : Nat} {xs : Cells} (h : (AV.row r e k xs).of (A.map1 (AV.ren1 σ))) : (AV.row r e k xs).of A := by
  cases A with
  | tup vs =>
    rcases h with h | ⟨us, h, hm⟩
    · cases h
    · simp only [AV.map1] at h
      injection h with h
      subst h
      obtain ⟨B, hB, e1⟩ := List.mem_map.1 hm
      exact .inr ⟨vs, rfl, by rw [← ren1_row e1]; exact hB⟩
  | ptr d o => rcases h with h | ⟨us, h, hm⟩ <;> cases h
  | cloB f ds => rcases h with h | ⟨us, h, hm⟩ <;> cases h
  | dead => exact h
  | val v => exact h
  | sl k xs => exact h
  | full k xs => exact h
  | cptr vs => exact h
  | clo f cs => exact h
  | row r e k xs => exact h
  | pr p => exact h
  | arow d => exact h
  | aptr d k j o => exact h
  | asub d k l m => exact h
theorem Sim.ren (h : Sim N K0 w0 S K n a w) (hτ : ∀ d, τ (σ d) = d) (hfix : ∀ d, w0.β d ≠ none → σ d = d) : Sim N K0 w0 (S.ren σ) K ⟨fun d => n.β (τ d), n.ρ⟩ a w := by
  have hb : ∀ d cs, (d, cs) ∈ (S.ren σ).boxes → ∃ d0 cs0, (d0, cs0) ∈ S.boxes ∧ d = σ d0 ∧ cs = cs0.map (AV.ren1 σ) ∧ n.β (τ d) = n.β d0 := fun d cs hm => by
    obtain ⟨⟨d0, cs0⟩, hm0, e⟩ := List.mem_map.1 hm
    injection e with e1 e2
    subst e1 e2
    exact ⟨d0, cs0, hm0, rfl, rfl, by simp only [hτ]⟩
  have hh : ∀ r e k xs, (S.ren σ).has (.row r e k xs) → S.has (.row r e k xs) := fun r e k xs hr => by
    rcases hr with ⟨t, ht⟩ | ⟨d, cs, hm, hA⟩
    · have e1 : (S.ren σ).get t = (S.get t).map1 (AV.ren1 σ) := getT_map (AV.map1 (AV.ren1 σ)) rfl S.tmps t
      rw [e1] at ht
      exact .inl ⟨t, ren_of ht⟩
    · obtain ⟨d0, cs0, hm0, _, rfl, _⟩ := hb d cs hm
      obtain ⟨B, hB, e1⟩ := List.mem_map.1 hA
      exact .inr ⟨d0, cs0, hm0, by rw [← ren1_row e1]; exact hB⟩
  exact {
    size := h.size
    defers := h.defers
    below := h.below
    k0 := h.k0
    knew := h.knew
    ok := h.ok
    tmp := fun t => by
      have e1 : (S.ren σ).get t = (S.get t).map1 (AV.ren1 σ) := getT_map (AV.map1 (AV.ren1 σ)) rfl S.tmps t
      rw [e1]
      exact (h.tmp t).ren hτ
    box := fun d cs hm => by
      obtain ⟨d0, cs0, hm0, _, rfl, hn⟩ := hb d cs hm
      obtain ⟨b, arr, ty, q1, q2, q3, q4, q5, q6⟩ := h.box d0 cs0 hm0
      refine ⟨b, arr, ty, by show n.β (τ d) = some b; rw [hn]; exact q1, q2, q3, by simpa using q4, fun i c hi => ?_, q6⟩
      rw [List.getElem?_map, Option.map_eq_some_iff] at hi
      obtain ⟨u, hu, rfl⟩ := hi
      exact (q5 i u hu).ren hτ
    boxInj := fun d cs d' cs' b m1 m2 g1 g2 => by
      obtain ⟨d0, cs0, p1, rfl, _, z1⟩ := hb d cs m1
      obtain ⟨d1, cs1, p2, rfl, _, z2⟩ := hb d' cs' m2
      rw [h.boxInj d0 cs0 d1 cs1 b p1 p2 (by rw [← z1]; exact g1) (by rw [← z2]; exact g2)]
    boxOne := fun d cs cs' m1 m2 => by
      obtain ⟨d0, cs0, p1, e1, rfl, _⟩ := hb d cs m1
      obtain ⟨d1, cs1, p2, e2, rfl, _⟩ := hb d cs' m2
      have : d0 = d1 := by rw [← hτ d0, ← hτ d1, ← e1, ← e2]
      subst this
      rw [h.boxOne d0 cs0 cs1 p1 p2]
    row := fun r e k xs hr => by
      obtain ⟨q1, q2⟩ := h.row r e k xs (hh r e k xs hr)
      refine ⟨q1, fun g hg => ⟨(q2 g hg).1, fun d cs hm => ?_⟩⟩
      obtain ⟨d0, cs0, hm0, _, _, hn⟩ := hb d cs hm
      show n.β (τ d) ≠ some g
      rw [hn]; exact (q2 g hg).2 d0 cs0 hm0
    rowInj := fun r e k xs r' e' k' xs' g h1 h2 => h.rowInj r e k xs r' e' k' xs' g (hh _ _ _ _ h1) (hh _ _ _ _ h2)
    arr := fun d A hm => by
      obtain ⟨q1, q2, q3⟩ := h.arr d A hm
      refine ⟨q1, q2, fun g hg => ⟨(q3 g hg).1, (q3 g hg).2.1, fun d' cs hm' => ?_, fun r e k xs hr => (q3 g hg).2.2.2 r e k xs (hh r e k xs hr)⟩⟩
      obtain ⟨d0, cs0, hm0, _, _, hn⟩ := hb d' cs hm'
      show n.β (τ d') ≠ some g
      rw [hn]; exact (q3 g hg).2.2.1 d0 cs0 hm0
    arrInj := h.arrInj
    arrOne := h.arrOne
    fix := fun d b hd => by
      obtain ⟨q1, q2⟩ := h.fix d b hd
      refine ⟨?_, q2⟩
      show n.β (τ d) = some b
      have e1 : σ d = d := hfix d (by rw [hd]; simp)
      rw [← e1, hτ]; exact q1 }
def upN (d : Nat) : Nat := if d < 1000 then d + 5000 else if d < 5000 then d else d + 1000
def dnN (d : Nat) : Nat := if d < 5000 then d else if d < 6000 then d - 5000 else d - 1000
theorem dn_up (d : Nat) : dnN (upN d) = d := by
  unfold upN dnN
  by_cases h1 : d < 1000
  · rw [if_pos h1, if_neg (by omega), if_pos (by omega)]; omega
  · rw [if_neg h1]
    by_cases h2 : d < 5000
    · rw [if_pos h2, if_pos h2]
    · rw [if_neg h2, if_neg (by omega), if_neg (by omega)]; omega
theorem CT.up {QE : Exit → St → Prop} {c : Code} {T : St} (hβ : ∀ d, w0.β d ≠ none → 1000 ≤ d ∧ d < 5000) (hT : S.ren upN = T) (h : CT P N K0 w0 c T QE) : CT P N K0 w0 c S QE := fun K n a w hs => by
  subst hT
  exact h K _ a w (hs.ren dn_up fun d hd => by obtain ⟨h1, h2⟩ := hβ d hd; unfold upN; rw [if_neg (by omega), if_pos h2])
end
end Go.Proofs.YtjmnnkhdadoehaaGreat

/- Abstract walks: the loop over a function, over abstract states. -/
namespace Go.Proofs.YtjmnnkhdadoehaaGreat
set_option linter.unusedSimpArgs false
set_option linter.unusedVariables false
open Go Go.RowKit Go.Shelf

def AV.okTm (bs : List (Nat × List AV)) : AV → Bool
  | .val _ | .dead | .sl _ _ | .full _ _ | .cptr _ | .clo _ _ | .pr _ => true
  | .ptr d _ => hasB bs d
  | .cloB _ ds => ds.all fun p => hasB bs p.1
  | _ => false
theorem Rep.okTm {K K' : Know} {n n' : Nm} {bs : List (Nat × List AV)} {A : AV} {c : Value} (hok : A.okTm bs = true) (hK : K.le K') (hβ : ∀ d, hasB bs d = true → n'.β d = n.β d) (h : Rep K n A c) : Rep K' n' A c := by
  have h' := h.mono hK
  cases A with
  | val v => exact h'
  | dead => trivial
  | sl k xs => exact h'
  | full k xs => exact h'
  | cptr vs => exact h'
  | clo f cs => exact h'
  | pr p => exact h'
  | ptr d o => obtain ⟨b, h1, h2⟩ := h'; exact ⟨b, by rw [hβ d hok]; exact h1, h2⟩
  | cloB f ds =>
    obtain ⟨ps, e, h1, h2⟩ := h'
    refine ⟨ps, e, h1, fun i p d off hp hd => ?_⟩
    obtain ⟨b, h3, h4⟩ := h2 i p d off hp hd
    exact ⟨b, by rw [hβ d (List.all_eq_true.1 hok _ (List.mem_of_getElem? hd))]; exact h3, h4⟩
  | row => cases hok
  | arow => cases hok
  | aptr => cases hok
  | asub => cases hok
  | tup => cases hok
theorem okTm_row {bs : List (Nat × List AV)} {A : AV} (h : A.okTm bs = true) {r e k : Nat} {xs : Cells} : ¬ (AV.row r e k xs).of A := by
  rintro (rfl | ⟨vs, rfl, hm⟩) <;> cases h
def AV.plainRow : AV → Bool
  | .row _ _ _ _ => false
  | .tup vs => vs.all fun A => !A.isRow
  | _ => true
def St.noRowsB (S : St) : Bool := S.tmps.all (fun p => p.2.plainRow) && S.boxes.all (fun p => p.2.all fun A => !A.isRow)
theorem St.noRows_of {S : St} (h : S.noRowsB = true) : S.noRows := by
  simp only [St.noRowsB, Bool.and_eq_true] at h
  rintro r e k xs (⟨t, ht⟩ | ⟨d, cs, hm, hA⟩)
  · rcases getT_mem S.tmps t with e1 | ⟨s, hm⟩
    · unfold St.get at ht; rw [e1] at ht; rcases ht with ht | ⟨_, ht, _⟩ <;> cases ht
    · have h1 := List.all_eq_true.1 h.1 _ hm
      unfold St.get at ht
      rcases ht with ht | ⟨vs, ht, hv⟩
      · rw [ht] at h1; cases h1
      · rw [ht] at h1; have := List.all_eq_true.1 h1 _ hv; cases this
  · have := List.all_eq_true.1 (List.all_eq_true.1 h.2 _ hm) _ hA; cases this
def roundQ (bs' : List (Nat × List AV)) (ar' : List (Nat × Arr)) : Exit → St → Prop := fun e S => e = .normal ∧ bs'.map (fun p => getB S.boxes p.1) = bs'.map (fun p => some p.2) ∧ ar'.map (fun p => getA S.arrs p.1) = ar'.map (fun p => some p.2)
section
variable {P : Program} {N : Nat} {K0 : Know} {w0 : Bas} {QE : Exit → St → Prop} {α : Type}
def Mk (w0 : Bas) (a : Act) (w W : World) : Prop := w0.top = true → ∃ Ds : List Nat, a.defers = Ds.map mark ∧ Ds.Nodup ∧ ∀ D ∈ Ds, w0.w.heap.size ≤ D ∧ D < w.heap.size ∧ W.heap[D]? = some (Obj.deferred (some []))
theorem Mk.keep {a : Act} {w W W' : World} (h : Mk w0 a w W) (hb : ∀ D o, D < w.heap.size → W.heap[D]? = some o → o.isCells = false → W'.heap[D]? = some o) : Mk w0 a w W' := fun ht => by
  obtain ⟨Ds, h1, h2, h3⟩ := h ht
  exact ⟨Ds, h1, h2, fun D hD => ⟨(h3 D hD).1, (h3 D hD).2.1, hb D _ (h3 D hD).2.1 (h3 D hD).2.2 rfl⟩⟩
def Bas.low (w0 : Bas) : Bas := ⟨w0.w, w0.own, w0.β, false⟩
theorem Sim.low {S : St} {K : Know} {n : Nm} {a a' : Act} {w : World} (h : Sim N K0 w0 S K n a w) (ha : a'.tmps = a.tmps) : Sim N K0 w0.low S K n a' w :=
  { h with size := by rw [ha]; exact h.size, defers := fun h => (by cases h), tmp := fun t => by rw [ha]; exact h.tmp t, below := ⟨h.below.os, h.below.tape, h.below.output, h.below.size, h.below.block⟩ }
theorem Sim.high {S : St} {K : Know} {n : Nm} {a a' : Act} {w : World} (h : Sim N K0 w0.low S K n a w) (ha : a'.tmps = a.tmps) (hd : w0.top = true → Marks w0 a' w) : Sim N K0 w0 S K n a' w :=
  { h with size := by rw [ha]; exact h.size, defers := hd, tmp := fun t => by rw [ha]; exact h.tmp t, below := ⟨h.below.os, h.below.tape, h.below.output, h.below.size, h.below.block⟩ }
theorem CT.range {g : Operand} {p1 p2 id : Nat} {os : List Oper} {body : Code} {tm : List (Nat × AV)} (T : List α → List (Nat × List AV)) (TA : List α → List (Nat × Arr)) (e1 e2 : α → Value) (M : Nat) (Sd Sp : List α → Prop) (hp1 : p1 < N) (hp2 : p2 < N)
    (hit : ∀ K n a w, Sim N K0 w0 ⟨tm, T [], TA []⟩ K n a w → ∃ gf lb, a.eval g = .func (.func gf) #[] lb ∧ (∀ args w, (callFunc gf args).run P w = .ok (.enter gf args) w) ∧ SeqStopsK Fence.wide 2 P gf lb (fun x => #[e1 x, e2 x]) (KpK K) Sd Sp M w)
    (htm : tm.all (fun p => p.2.okTm (T [])) = true) (hN : (T []).all (fun p => decide (N ≤ p.1)) = true) (hnames : ∀ pre d, hasB (T pre) d = hasB (T []) d) (hcell : ∀ pre, (T pre).all (fun p => p.2.all fun A => !A.isRow) = true) (hnd : os.all noDefer = true)
    (hround : ∀ K1 (B : Bas) pre x, (∀ d, w0.β d = none → hasB (T []) d = false → B.β d = none) → LT P N K1 B os.toArray os ⟨(p2, .val (e2 x)) :: (p1, .val (e1 x)) :: tm, T pre, TA pre⟩ (fun S1 => S1.noRowsB = true ∧ (T []).all (fun p => hasB S1.boxes p.1) = true ∧
      (pre.length < M → ∀ l K2 (B2 : Bas), (∀ d, w0.β d = none → (N ≤ d → hasB S1.boxes d = false) → B2.β d = none) → CTI l P N K2 B2 body S1 (roundQ (T (pre ++ [x])) (TA (pre ++ [x]))))))
    (hdone : ∀ xs, Sd xs → QE .normal ⟨tm, T xs, TA xs⟩) : CT P N K0 w0 (.rangeFunc g #[p1, p2] (.region id os.toArray false) body) ⟨tm, T [], TA []⟩ QE := by
  intro K n a w hs
  obtain ⟨gf, lb, hg, eg, hseq⟩ := hit K n a w hs
  have hbase : w0.w.heap.size ≤ w.heap.size := hs.base
  have hNT : ∀ d, hasB (T []) d = true → N ≤ d := fun d hd => by
    obtain ⟨cs, hm⟩ := hasB_ex hd
    simpa using List.all_eq_true.1 hN _ hm
  have hmk0 : Mk w0 a w w := fun ht => by
    obtain ⟨Ds, h1, h2, h3⟩ := hs.defers ht
    exact ⟨Ds, h1, h2, fun D hD => ⟨(h3 D hD).1, (Array.getElem?_eq_some_iff.1 (h3 D hD).2).1, (h3 D hD).2⟩⟩
  have hnoT : ∀ pre, (⟨tm, T pre, TA pre⟩ : St).noRows := fun pre r e k xs hr => by
    rcases hr with ⟨t, ht⟩ | ⟨d, cs, hm, hA⟩
    · rcases getT_mem tm t with q | ⟨s, hm⟩
      · have ht' : (AV.row r e k xs).of (getT tm t) := ht
        rw [q] at ht'; rcases ht' with ht' | ⟨_, ht', _⟩ <;> cases ht'
      · exact okTm_row (List.all_eq_true.1 htm _ hm) ht
    · have := List.all_eq_true.1 (List.all_eq_true.1 (hcell pre) _ hm) _ hA; cases this
  let a0 : Act := { a with defers := [] }
  let I : List α → World → Prop := fun pre W => Mk w0 a w W ∧ w.heap.size ≤ W.heap.size ∧ ∃ K' n', Sim N K0 w0.low ⟨tm, T pre, TA pre⟩ K' n' a0 W ∧ K.le K' ∧ ∀ d, hasB (T []) d = true → n'.β d = n.β d
  let J : List α → α → Act → World → Prop := fun pre x a' W => Mk w0 a w W ∧ w.heap.size ≤ W.heap.size ∧ ∃ S1 K' n', Sim N K0 w0.low S1 K' n' a' W ∧ K.le K' ∧ (∀ d, hasB (T []) d = true → n'.β d = n.β d) ∧
    S1.noRowsB = true ∧ (T []).all (fun p => hasB S1.boxes p.1) = true ∧ (pre.length < M → ∀ l K2 (B2 : Bas), (∀ d, w0.β d = none → (N ≤ d → hasB S1.boxes d = false) → B2.β d = none) → CTI l P N K2 B2 body S1 (roundQ (T (pre ++ [x])) (TA (pre ++ [x])))) ∧
    ∀ t, Rep K' n' (getT tm t) (a0.tmps.getD t undef)
  have hmkT : ∀ {W W' : World} {row : Option Nat}, Mk w0 a w W → w.heap.size ≤ W.heap.size → W.grownBy W' row → (∀ r, row = some r → w.heap.size ≤ r ∧ ∃ o : Obj, W.heap[r]? = some o ∧ o.isCells = false) → Mk w0 a w W' := fun hm hsz hgr hr => hm.keep fun D o hD ho _ => by
    rw [hgr.block D (Nat.lt_of_lt_of_le hD hsz) (fun e => by have := (hr D e.symm).1; omega)]; exact ho
  have hlowr : ∀ {W : World} {row : Option Nat}, (∀ r, row = some r → w.heap.size ≤ r ∧ ∃ o : Obj, W.heap[r]? = some o ∧ o.isCells = false) → ∀ r, row = some r → w0.low.w.heap.size ≤ r ∧ ∃ o : Obj, W.heap[r]? = some o ∧ o.isCells = false := fun hr r e => ⟨Nat.le_trans hbase (hr r e).1, (hr r e).2⟩
  have htmT : ∀ {K' n'} , K.le K' → (∀ d, hasB (T []) d = true → n'.β d = n.β d) → ∀ t, Rep K' n' (getT tm t) (a0.tmps.getD t undef) := fun hK hβ t => by
    rcases getT_mem tm t with q | ⟨s, hm⟩
    · rw [q]; trivial
    · exact (hs.tmp t).okTm (List.all_eq_true.1 htm _ hm) hK hβ
  refine (wpIn_wide (n := 3)).1 (range_joint (ps := #[p1, p2]) hg eg (encs := fun x => #[e1 x, e2 x]) (Kp := KpK K) hseq (fun h h' => h.trans h') (fun W l o o' h hc => KpK.turn W l o o' h hc) (fun x => rfl) I (fun _ _ _ => False) J ?_ (fun c s W W' row h => h.elim) ?_ ?_ ?_ ?_ ?_ ?_)
  · -- I abides a turn
    rintro pre W W' row ⟨h1, h2, K', n', h3, h4, h5⟩ hgr hr
    exact ⟨hmkT h1 h2 hgr hr, Nat.le_trans h2 hgr.size, K', n', h3.turned hgr (hlowr hr) (fun h => by cases h), h4, h5⟩
  · -- J abides a turn
    rintro pre x a' _ W W' row ⟨h1, h2, S1, K', n', h3, h4⟩ hgr hr
    exact ⟨hmkT h1 h2 hgr hr, Nat.le_trans h2 hgr.size, S1, K', n', h3.turned hgr (hlowr hr) (fun h => by cases h), h4⟩
  · exact ⟨hmk0, Nat.le_refl _, K, n, hs.low rfl, Know.le_refl K, fun _ _ => rfl⟩
  · -- the assignments of a round
    rintro l pre x W ⟨h1, h2, K', n', h3, h4, h5⟩
    have hput : Sim N K0 w0.low ⟨(p2, .val (e2 x)) :: (p1, .val (e1 x)) :: tm, T pre, TA pre⟩ K' n' ((a0.put (some p1) (e1 x)).put (some p2) (e2 x)) W := (h3.put hp1 (A := .val (e1 x)) rfl (fun r e k xs h => has_val r e k xs h)).put hp2 (A := .val (e2 x)) rfl (fun r e k xs h => has_val r e k xs h)
    have hact : ({ tmps := ((#[p1, p2] : Array Tmp).zip #[e1 x, e2 x]).foldl (fun t (p, v) => t.setIfInBounds p v) a.tmps, defers := [] } : Act) = (a0.put (some p1) (e1 x)).put (some p2) (e2 x) := by simp [Act.put, a0]
    rw [hact]
    have hnr : (⟨(p2, .val (e2 x)) :: (p1, .val (e1 x)) :: tm, T pre, TA pre⟩ : St).noRows := fun r e k xs hr => by
      rcases hr with ⟨t, ht⟩ | hr
      · have ht' : (AV.row r e k xs).of (((⟨tm, T pre, TA pre⟩ : St).put p1 (.val (e1 x))).put p2 (.val (e2 x)) |>.get t) := ht
        rw [St.get_put] at ht'
        split at ht'
        · rcases ht' with ht' | ⟨_, ht', _⟩ <;> cases ht'
        · rw [St.get_put] at ht'
          split at ht'
          · rcases ht' with ht' | ⟨_, ht', _⟩ <;> cases ht'
          · exact hnoT pre r e k xs (.inl ⟨t, ht'⟩)
      · exact hnoT pre r e k xs (.inr hr)
    refine wpIn_mono (round_walk (l := l) (w0 := w0.low) (c := .region id os.toArray false) (Q := fun e S1 => e = .normal ∧ S1.noRowsB = true ∧ (T []).all (fun p => hasB S1.boxes p.1) = true ∧
      (pre.length < M → ∀ l K2 (B2 : Bas), (∀ d, w0.β d = none → (N ≤ d → hasB S1.boxes d = false) → B2.β d = none) → CTI l P N K2 B2 body S1 (roundQ (T (pre ++ [x])) (TA (pre ++ [x]))))) rfl hput hnr (fun K1 B hB => CTI.region hnd (LT.mono (hround K1 B pre x (fun d q1 q2 => hB d q1 (fun _ => by show hasB (T pre) d = false; rw [hnames]; exact q2))) fun S1 h => ⟨rfl, h⟩))) ?_
    rintro e a' W' ⟨K2, n2, S1, ⟨rfl, q1, q2, q3⟩, hs1, hko, hkp, hle, hβ⟩
    have hβ2 : ∀ d, hasB (T []) d = true → n2.β d = n.β d := fun d hd => (hβ d (hNT d hd) (by show hasB (T pre) d = true; rw [hnames]; exact hd)).trans (h5 d hd)
    refine ⟨rfl, hko.from _, fun b o u hk hc => hkp b o u (h4 b o u hk) hc, h1.keep fun D o hD ho hoc => hko.same D o ho hoc, Nat.le_trans h2 hko.size, S1, K2, n2, hs1, Know.le_trans h4 hle, hβ2, q1, q2, q3, htmT (Know.le_trans h4 hle) hβ2⟩
  · -- the body of a round
    rintro l pre x a' W ⟨h1, h2, S1, K', n', h3, h4, h5, h6, h7, h8, h9⟩ hlen
    refine wpIn_mono (round_walk (l := l) (w0 := w0.low) rfl h3 (St.noRows_of h6) (fun K1 B hB => h8 hlen l K1 B hB)) ?_
    rintro e a2 W' ⟨K2, n2, S2, ⟨rfl, r1, r2⟩, hs2, hko, hkp, hle, hβ⟩
    have hβ2 : ∀ d, hasB (T []) d = true → n2.β d = n.β d := fun d hd => by
      obtain ⟨cs, hm⟩ := hasB_ex hd
      exact (hβ d (hNT d hd) (List.all_eq_true.1 h7 _ hm)).trans (h5 d hd)
    have hK2 := Know.le_trans h4 hle
    refine ⟨hko.from _, fun b o u hk hc => hkp b o u (h4 b o u hk) hc, h1.keep fun D o hD ho hoc => hko.same D o ho hoc, Nat.le_trans h2 hko.size, K2, n2, ?_, hK2, hβ2⟩
    have mb : ∀ d cs, (d, cs) ∈ T (pre ++ [x]) → (d, cs) ∈ S2.boxes := fun d cs hm => getB_mem (map_some_mem (g := Prod.snd) r1 _ hm)
    have ma : ∀ d A, (d, A) ∈ TA (pre ++ [x]) → (d, A) ∈ S2.arrs := fun d A hm => getA_mem (map_some_mem (g := Prod.snd) r2 _ hm)
    exact {
      size := hs.size
      defers := fun h => by cases h
      below := hs2.below
      k0 := hs2.k0
      knew := hs2.knew
      ok := hs2.ok
      tmp := htmT hK2 hβ2
      box := fun d cs hm => hs2.box d cs (mb d cs hm)
      boxInj := fun d cs d' cs' b q1 q2 => hs2.boxInj d cs d' cs' b (mb _ _ q1) (mb _ _ q2)
      boxOne := fun d cs cs' q1 q2 => hs2.boxOne d cs cs' (mb _ _ q1) (mb _ _ q2)
      row := fun r e k xs h => absurd h (hnoT _ r e k xs)
      rowInj := fun r e k xs r' e' k' xs' g h => absurd h (hnoT _ r e k xs)
      arr := fun d A hm => by
        obtain ⟨q1, q2, q3⟩ := hs2.arr d A (ma d A hm)
        exact ⟨q1, q2, fun g hg => ⟨(q3 g hg).1, (q3 g hg).2.1, fun d' cs hm' => (q3 g hg).2.2.1 d' cs (mb _ _ hm'), fun r e k xs h => absurd h (hnoT _ r e k xs)⟩⟩
      arrInj := fun d A d' A' g q1 q2 => hs2.arrInj d A d' A' g (ma _ _ q1) (ma _ _ q2)
      arrOne := fun d A A' q1 q2 => hs2.arrOne d A A' (ma _ _ q1) (ma _ _ q2)
      fix := hs2.fix }
  · -- behind it
    rintro xs W hS ⟨h1, h2, K', n', h3, h4, h5⟩ hoff
    refine ⟨K', n', _, hdone xs hS, h3.high rfl fun ht => ?_⟩
    obtain ⟨Ds, q1, q2, q3⟩ := h1 ht
    refine ⟨w.heap.size :: Ds, by simp [q1], List.nodup_cons.2 ⟨fun hm => absurd (q3 _ hm).2.1 (Nat.lt_irrefl _), q2⟩, fun D hD => ?_⟩
    rcases List.mem_cons.1 hD with rfl | hD
    · exact ⟨hbase, hoff⟩
    · exact ⟨(q3 D hD).1, (q3 D hD).2.2⟩
  · rintro c pre W _ h; exact h.elim
end
end Go.Proofs.YtjmnnkhdadoehaaGreat

/- Abstract walks: calls of closures, slices in boxes. -/
namespace Go.Proofs.YtjmnnkhdadoehaaGreat
set_option linter.unusedSimpArgs false
set_option linter.unusedVariables false
open Go Go.RowKit Go.Shelf

section
variable {P : Program} {N : Nat} {K0 : Know} {w0 : Bas} {S S' : St} {K K' : Know} {n : Nm} {a : Act} {w w' : World} {Q : St → Prop}
variable {d dO : Option Nat} {ty : TypeId} {pos : String} {aft : Array Edge} {g : Option (Nat × Bool)} {t e : TypeId} {x y : Operand} {tm : List (Nat × AV)} {bs : List (Nat × List AV)} {ar : List (Nat × Arr)} {dn : Nat}
/-! ### Calls of closures -/
theorem call_runD {f : FuncId} {fn : Func} {c : Code} {args : Array Operand} {ats : Array TypeId} {lb : Array Value} (hf : P.funcs[f]? = some fn) (hname : (fn.name == "runtime.NumGoroutine") = false) (hb : fn.body = some c) (hx : a.eval x = .func (.func f) #[] lb) (w : World) :
    (execOp a.eval ⟨d, .call { callee := .value x, args := args, argTypes := ats }, ty, pos, aft, g⟩).run P w = .ok (.enter f ((args.toList.map a.eval).toArray ++ lb)) w := by
  have e1 : execOp a.eval ⟨d, .call { callee := .value x, args := args, argTypes := ats }, ty, pos, aft, g⟩ = callFunc f (args.map a.eval ++ lb) := by
    unfold execOp
    simp [resolve, Deferred.ofValue, invoke, hx]
  have e2 : args.map a.eval ++ lb = (args.toList.map a.eval).toArray ++ lb := by congr 1; apply Array.ext'; simp
  rw [e1, enters_of hf hname hb, e2]
theorem OpH.callD {f : FuncId} {fn : Func} {c : Code} {args : Array Operand} {ats : Array TypeId} {As : List AV} {v : Value} {A : AV} {caps : List (List Value)} (h0 : S.opv x = A) (hA : A.argB S = .clo f caps) (hf : P.funcs[f]? = some fn) (hname : (fn.name == "runtime.NumGoroutine") = false) (hb : fn.body = some c)
    (hargs : (args.toList.map fun x => (S.opv x).argB S) = As) (hg : Good P f (As ++ caps.map AV.cptr) (.val v)) : OpH P N K0 w0 ⟨d, .call { callee := .value x, args := args, argTypes := ats }, ty, pos, aft, g⟩ S (.val v) := by
  subst hargs
  intro S' K n a w hs hB hop
  have hx := hs.opv x
  rw [hop x (by simp [Op.operands, Call.operands]), h0] at hx
  have hx2 := ((AV.argB_of S A).at (St.mem_boxes hB)).rep hs hx
  rw [hA] at hx2
  obtain ⟨ps, e1, e2, e3⟩ := hx2
  have hargsOf : ∀ y ∈ args.toList, S'.opv y = S.opv y := fun y hy => hop y (by simp only [Op.operands, Call.operands]; simp; right; simpa using hy)
  have key : ∀ {R : Ending → World → Prop}, Calls P f ((args.toList.map a.eval) ++ ps).toArray w R → Calls P f ((args.toList.map a.eval).toArray ++ ps.toArray) w R := fun h => by simpa using h
  refine upon_enter_calls (call_runD hf hname hb e1 w) (key (hg (K.boxed n S' w) w (args.toList.map a.eval ++ ps) (Know.boxed_ok hs.ok) (by simp [e2]) fun i B cv hBi hci => ?_)) ?_
  · by_cases hi : i < args.toList.length
    · rw [List.getElem?_append_left (by simpa using hi), List.getElem?_map, Option.map_eq_some_iff] at hBi
      rw [List.getElem?_append_left (by simpa using hi), List.getElem?_map, Option.map_eq_some_iff] at hci
      obtain ⟨y, hy, rfl⟩ := hBi
      obtain ⟨y', hy', rfl⟩ := hci
      rw [hy] at hy'
      injection hy' with hy'
      subst hy'
      have h1 := hs.opv y
      rw [hargsOf y (List.mem_of_getElem? hy)] at h1
      exact ((AV.argB_of S (S.opv y)).at (St.mem_boxes hB)).rep hs h1
    · rw [List.getElem?_append_right (by simpa using hi), List.getElem?_map, Option.map_eq_some_iff] at hBi
      rw [List.getElem?_append_right (by simpa using hi)] at hci
      obtain ⟨vs, hvs, rfl⟩ := hBi
      exact e3 _ cv vs (by simpa using hci) (by simpa using hvs)
  · rintro e w' ⟨c, K', rfl, h1, h2, h3, h4, ρ, h5, _⟩
    exact ⟨c, rfl, c, K, rfl, h1, Know.le_refl K, Know.below hs.ok h1, fun _ _ _ h _ => h, h5, fun r e k xs hr => absurd hr (AV.plain_row rfl r e k xs)⟩

/-! ### Slices in boxes -/
inductive AV.One : AV → AV → Prop
  | sl {A k xs} (h : A.Sl k xs) : AV.One A (.sl k xs)
  | arow {r : Nat} : AV.One (.arow r) (.arow r)
theorem AV.One.rep {A B : AV} {c : Value} (h : A.One B) (hr : Rep K n A c) (hw : Sim N K0 w0 S K n a w) (hS : ∀ d, A = .arow d → ∃ X, (d, X) ∈ S.arrs) : Rep1 K n B c ∧ c.cells = #[c] ∧ c.oneCell' = true := by
  cases h with
  | sl h => obtain ⟨A', cap, rfl, h1⟩ := h.slice hr; exact ⟨⟨A', cap, rfl, h1⟩, rfl, rfl⟩
  | arow =>
    rename_i d
    obtain ⟨X, hm⟩ := hS d rfl
    obtain ⟨A', cap, h1, _⟩ := own_val (hw.arr d X hm).1
    have hr' : c = n.ρ d := hr
    rw [h1] at hr'
    subst hr'
    exact ⟨h1.symm, rfl, rfl⟩
theorem T.store1 {b o : Nat} {A B : AV} {cs cs' : List AV} (h1 : St.opv ⟨tm, bs, ar⟩ x = .ptr b o) (h2 : St.opv ⟨tm, bs, ar⟩ y = A) (hA : A.One B) (hhas : (match A.aname with | some d => hasA ar d | none => true) = true) (hb : getB bs b = some cs) (hk : (P.info? t).map (·.size) = some 1) (ho : o + 1 ≤ cs.length)
    (hcs : cs.set o B = cs') {bs' : List (Nat × List AV)} (hbs : setBx bs b cs' = bs') (hq : Q ⟨tm, bs', ar⟩) : OpT P N K0 w0 ⟨none, .store t x y, ty, pos, aft, g⟩ ⟨tm, bs, ar⟩ Q := by
  subst hbs hcs
  intro K n a w hs
  have e1 := hs.opv x
  have e2 := hs.opv y
  rw [h1] at e1
  rw [h2] at e2
  obtain ⟨b', hβ, e1⟩ := e1
  have hm : (b, cs) ∈ (⟨tm, bs, ar⟩ : St).boxes := getB_mem hb
  obtain ⟨q1, q2, q3⟩ := hA.rep e2 hs (fun d hd => by rw [hd] at hhas; exact hasA_ex hhas)
  obtain ⟨b2, arr, ty2, p1, p2, p3, p4, p5, p6⟩ := hs.box b cs hm
  rw [hβ] at p1
  injection p1 with p1
  subst p1
  unfold Oper.wp
  simp only [execOp]
  rw [e1, Sem.run_bind, run_storeV (by rw [q2]; exact hk) (by rw [q2]; simpa using q3) p3 (by rw [q2, p4]; exact ho)]
  have hnB : ∀ r e k xs, B ≠ .row r e k xs := by cases hA <;> (intros; intro h; cases h)
  refine ⟨K, n, _, hq, hs.store hβ hm (vs := (a.eval y).cells.toList) (by rw [q2]; simpa using ho) (by simp) (fun i c u hi hu => ?_) (fun i c hi hio => ?_) (fun r e k xs h => ?_)⟩
  · rw [q2] at hu
    cases i with
    | zero =>
      simp at hu
      subst hu
      rw [Nat.add_zero, List.getElem?_set_self (by omega)] at hi
      injection hi with hi
      subst hi
      exact q1
    | succ i => simp at hu
  · rw [q2] at hio
    rw [List.getElem?_set_ne (by simp at hio; omega)] at hi
    exact hi
  · rcases List.mem_or_eq_of_mem_set h with h | h
    · exact .inr ⟨b, cs, hm, h⟩
    · exact absurd h.symm (hnB r e k xs)
theorem Sim.nilBox (h : Sim N K0 w0 S K n a w) {b o d e k : Nat} {cs : List AV} (hm : (b, cs) ∈ S.boxes) (hv : cs[o]? = some (.val (.slice none 0 0))) (hf : S.free d = true) : Sim N K0 w0 ⟨S.tmps, setBx S.boxes b (cs.set o (.arow d)), (d, ⟨e, k, []⟩) :: S.arrs⟩ K (n.setρ d (.slice none 0 0)) a w := by
  have h1 := h.setρ hf (.slice none 0 0)
  have hρ : (n.setρ d (.slice none 0 0)).ρ d = .slice none 0 0 := by simp [Nm.setρ]
  have ho : o < cs.length := (List.getElem?_eq_some_iff.1 hv).1
  have hbx : ∀ b' cs', (b', cs') ∈ setBx S.boxes b (cs.set o (.arow d)) → ∃ c, (b', c) ∈ S.boxes := fun b' cs' hm' => by
    obtain ⟨c, h2, _⟩ := setBx_mem hm'; exact ⟨c, h2⟩
  have hh : ∀ r e' k' xs', (⟨S.tmps, setBx S.boxes b (cs.set o (.arow d)), (d, ⟨e, k, []⟩) :: S.arrs⟩ : St).has (.row r e' k' xs') → S.has (.row r e' k' xs') := by
    intro r e' k' xs' hr
    rcases hr with ht | ⟨b', cs', hm', hA⟩
    · exact .inl ht
    · obtain ⟨c, h2, ⟨rfl, rfl⟩ | ⟨_, rfl⟩⟩ := setBx_mem hm'
      · rcases List.mem_or_eq_of_mem_set hA with hA | hA
        · exact .inr ⟨b', cs, hm, hA⟩
        · cases hA
      · exact .inr ⟨b', c, h2, hA⟩
  exact {
    size := h.size
    defers := h.defers
    below := h.below
    k0 := h.k0
    knew := h.knew
    ok := h.ok
    tmp := h1.tmp
    box := fun b' cs' hm' => by
      obtain ⟨c, h2, ⟨rfl, rfl⟩ | ⟨_, rfl⟩⟩ := setBx_mem hm'
      · obtain ⟨b2, arr, ty, q1, q2, q3, q4, q5, q6⟩ := h1.box b' cs hm
        refine ⟨b2, arr, ty, q1, q2, q3, by simpa using q4, fun i A hi => ?_, q6⟩
        by_cases hio : o = i
        · subst hio
          rw [List.getElem?_set_self ho] at hi
          injection hi with hi
          subst hi
          show arr.getD o undef = (n.setρ d (.slice none 0 0)).ρ d
          rw [hρ]
          exact q5 o _ hv
        · rw [List.getElem?_set_ne hio] at hi
          exact q5 i A hi
      · exact h1.box b' c h2
    boxInj := fun d1 c1 d2 c2 b' p1 p2 => by
      obtain ⟨x1, u1⟩ := hbx d1 c1 p1
      obtain ⟨x2, u2⟩ := hbx d2 c2 p2
      exact h.boxInj d1 x1 d2 x2 b' u1 u2
    boxOne := fun d1 c1 c2 p1 p2 => by
      obtain ⟨x1, h3, ⟨rfl, rfl⟩ | ⟨n1, rfl⟩⟩ := setBx_mem p1 <;> obtain ⟨x2, h4, ⟨k1, k2⟩ | ⟨n2, rfl⟩⟩ := setBx_mem p2
      · exact k2.symm
      · exact absurd rfl n2
      · exact absurd k1 n1
      · exact h.boxOne d1 x1 x2 h3 h4
    row := fun r e' k' xs' hr => by
      obtain ⟨q1, q2⟩ := h1.row r e' k' xs' (hh r e' k' xs' hr)
      exact ⟨q1, fun g hg => ⟨(q2 g hg).1, fun d' cs' hm' => by obtain ⟨c, h2⟩ := hbx d' cs' hm'; exact (q2 g hg).2 d' c h2⟩⟩
    rowInj := fun r e1 k1 xs1 r' e2 k2 xs2 g p1 p2 => h1.rowInj r e1 k1 xs1 r' e2 k2 xs2 g (hh _ _ _ _ p1) (hh _ _ _ _ p2)
    arr := fun d' A hm' => by
      rcases List.mem_cons.1 hm' with e1 | hm'
      · injection e1 with e1 e2
        subst e1 e2
        rw [hρ]
        exact ⟨World.ownsRow_nil w 0 e k, fun x hx => (by cases hx), fun g hg => (by cases hg)⟩
      · obtain ⟨q1, q2, q3⟩ := h1.arr d' A hm'
        exact ⟨q1, q2, fun g hg => ⟨(q3 g hg).1, (q3 g hg).2.1, fun d2 cs2 hm2 => (by obtain ⟨c, h2⟩ := hbx d2 cs2 hm2; exact (q3 g hg).2.2.1 d2 c h2), fun r e' k' xs' hr => (q3 g hg).2.2.2 r e' k' xs' (hh r e' k' xs' hr)⟩⟩
    arrInj := fun d1 A1 d2 A2 g p1 p2 q1 q2 => by
      rcases List.mem_cons.1 p1 with e1 | p1 <;> rcases List.mem_cons.1 p2 with e2 | p2
      · injection e1 with e1; injection e2 with e2; exact e1.trans e2.symm
      · injection e1 with e1 _; rw [e1, hρ] at q1; cases q1
      · injection e2 with e2 _; rw [e2, hρ] at q2; cases q2
      · exact h1.arrInj d1 A1 d2 A2 g p1 p2 q1 q2
    arrOne := fun d1 A1 A2 p1 p2 => by
      rcases List.mem_cons.1 p1 with e1 | p1 <;> rcases List.mem_cons.1 p2 with e2 | p2
      · injection e1 with _ e1; injection e2 with _ e2; exact e1.trans e2.symm
      · injection e1 with e1 _; exact absurd e1 (St.free_arr hf p2)
      · injection e2 with e2 _; exact absurd e2 (St.free_arr hf p1)
      · exact h.arrOne d1 A1 A2 p1 p2
    fix := h.fix }
theorem CT.mkarrB {QE : Exit → St → Prop} {c : Code} (b o d e k : Nat) {cs : List AV} {bs' : List (Nat × List AV)} (hb : getB bs b = some cs) (hv : cs[o]? = some (.val (.slice none 0 0))) (hf : St.free ⟨tm, bs, ar⟩ d = true) (hbs : setBx bs b (cs.set o (.arow d)) = bs') (h : CT P N K0 w0 c ⟨tm, bs', (d, ⟨e, k, []⟩) :: ar⟩ QE) : CT P N K0 w0 c ⟨tm, bs, ar⟩ QE := by
  subst hbs
  exact fun K n a w hs => h K _ a w (hs.nilBox (getB_mem hb) hv hf)
end
end Go.Proofs.YtjmnnkhdadoehaaGreat

/- Abstract walks: clear of a part of a row that is written in place. -/
namespace Go.Proofs.YtjmnnkhdadoehaaGreat
set_option linter.unusedSimpArgs false
set_option linter.unusedVariables false
open Go Go.RowKit Go.Shelf
section
variable {P : Program} {N : Nat} {K0 : Know} {w0 : Bas} {S S' : St} {K K' : Know} {n : Nm} {a : Act} {w w' : World} {Q : St → Prop}
variable {dO : Option Nat} {ty : TypeId} {pos : String} {aft : Array Edge} {g : Option (Nat × Bool)} {t e : TypeId} {x y : Operand} {tm : List (Nat × AV)} {bs : List (Nat × List AV)} {ar : List (Nat × Arr)} {dn : Nat}
/-! ### Rows that are lent to a call which reads them -/
open Classical in
noncomputable def Know.lent (K : Know) (n : Nm) (S : St) (w : World) : Know := fun b o => match K.boxed n S w b o with
  | some v => some v
  | none => if ∃ d A, (d, A) ∈ S.arrs ∧ (n.ρ d).ownBlock = some b then w.cell? ⟨b, o, none⟩ else none
theorem Know.lent_le {K : Know} {n : Nm} {w : World} : (K.boxed n S w).le (K.lent n S w) := fun b o v h => by unfold Know.lent; rw [h]
theorem Know.lent_ok {K : Know} {n : Nm} {w : World} (h : K.ok w) : (K.lent n S w).ok w := fun b o v hv => by
  unfold Know.lent at hv
  split at hv
  · rename_i u hu; injection hv with hv; subst hv; exact Know.boxed_ok h b o u hu
  · split at hv
    · exact hv
    · cases hv
theorem lent_row (hs : Sim N K0 w0 S K n a w) {d : Nat} {A : Arr} (hA : getA S.arrs d = some A) : Slice (K.lent n S w) A.k A.xs (n.ρ d) := by
  have hm := getA_mem hA
  obtain ⟨q1, q2, q3⟩ := hs.arr d A hm
  refine own_slice q1 (fun gb hg o u hu => ?_) (Arr.ok_len q2) (Arr.ok_one q2)
  have hc := q1.cells hg o u hu
  rw [Addr.add_mid, Nat.zero_add] at hc
  unfold Know.lent
  split
  · rename_i v hv
    have := Know.boxed_ok hs.ok gb o v hv
    rw [hc] at this
    exact this.symm
  · rw [if_pos ⟨d, A, hm, hg⟩]; exact hc
def AV.argL (S : St) : AV → AV
  | .arow d => match getA S.arrs d with
    | some A => .sl A.k A.xs
    | none => .dead
  | A => A.argB S
theorem AV.argL_rep (hs : Sim N K0 w0 S K n a w) {S1 : St} (hB : S.mem = S1.mem) {A : AV} {c : Value} (hr : Rep K n A c) : Rep1 (K.lent n S w) Nm.nil (A.argL S1) c := by
  have key : ∀ {A : AV}, Rep K n A c → Rep1 (K.lent n S w) Nm.nil (A.argB S1) c := fun {A} hr => Rep1.mono (((AV.argB_of S1 A).at (St.mem_boxes hB)).rep hs hr) Know.lent_le
  cases A with
  | arow d =>
    simp only [AV.argL]
    split
    · rename_i A hA
      rw [← St.mem_arrs hB] at hA
      have h := lent_row hs hA
      rw [show c = n.ρ d from hr]
      exact h
    · trivial
  | _ => exact key hr
theorem OpH.callL {f : FuncId} {fn : Func} {c : Code} {args : Array Operand} {ats : Array TypeId} {As : List AV} {v : Value} (hf : P.funcs[f]? = some fn) (hname : (fn.name == "runtime.NumGoroutine") = false) (hb : fn.body = some c)
    (hargs : (args.toList.map fun x => (S.opv x).argL S) = As) (hg : Good P f As (.val v)) : OpH P N K0 w0 ⟨dO, .call { callee := .value (.func f), args := args, argTypes := ats }, ty, pos, aft, g⟩ S (.val v) := by
  subst hargs
  intro S' K n a w hs hB hop
  refine upon_enter_calls (call_run hf hname hb a w) (hg (K.lent n S' w) w (args.toList.map a.eval) (Know.lent_ok hs.ok) (by simp) fun i A c hA hc => ?_) ?_
  · rw [List.getElem?_map, Option.map_eq_some_iff] at hc hA
    obtain ⟨x, hx, rfl⟩ := hc
    obtain ⟨x', hx', rfl⟩ := hA
    rw [hx] at hx'; injection hx' with hx'; subst hx'
    have h1 := hs.opv x
    rw [hop x (by simp only [Op.operands, Call.operands]; simp; right; simpa using List.mem_of_getElem? hx)] at h1
    exact AV.argL_rep hs hB h1
  · rintro e w' ⟨c, K', rfl, h1, h2, h3, h4, ρ, h5, _⟩
    exact ⟨c, rfl, c, K, rfl, h1, Know.le_refl K, Know.below hs.ok h1, fun _ _ _ h _ => h, h5, fun r e k xs hr => absurd hr (AV.plain_row rfl r e k xs)⟩
theorem T.callArrL (q : Nat) {f : FuncId} {fn : Func} {c : Code} {args : Array Operand} {ats : Array TypeId} {As : List AV} {r k : Nat} {xs : Cells} (hf : P.funcs[f]? = some fn) (hname : (fn.name == "runtime.NumGoroutine") = false) (hb : fn.body = some c)
    (hargs : (args.toList.map fun x => (St.opv ⟨tm, bs, ar⟩ x).argL ⟨tm, bs, ar⟩) = As) (hg : Good P f As (.row r e k xs)) (hd : dn < N) (hfr : St.free ⟨tm, bs, ar⟩ q = true) (hq : Q ⟨(dn, .arow q) :: tm, bs, (q, ⟨e, k, xs⟩) :: ar⟩) :
    OpT P N K0 w0 ⟨some dn, .call { callee := .value (.func f), args := args, argTypes := ats }, ty, pos, aft, g⟩ ⟨tm, bs, ar⟩ Q := by
  subst hargs
  intro K n a w hs
  refine upon_enter_calls (call_run hf hname hb a w) (hg (K.lent n ⟨tm, bs, ar⟩ w) w (args.toList.map a.eval) (Know.lent_ok hs.ok) (by simp) fun i A c hA hc => ?_) ?_
  · rw [List.getElem?_map, Option.map_eq_some_iff] at hc hA
    obtain ⟨x, hx, rfl⟩ := hc
    obtain ⟨x', hx', rfl⟩ := hA
    rw [hx] at hx'; injection hx' with hx'; subst hx'
    exact AV.argL_rep hs rfl (hs.opv x)
  · rintro e' w' ⟨c, K', rfl, h1, h2, h3, h4, ρ, ⟨h5, h6⟩, h7, _⟩
    obtain ⟨h8, h9⟩ := h7 r e k xs (.inl rfl)
    subst h5
    obtain ⟨_, _, _, _, _, hr⟩ := h6
    exact ⟨ρ r, rfl, K, _, _, hq, hs.freshArr h1 hd hfr h8 (Nat.le_refl _) (Arr.ok_of hr.lens hr.ones)⟩
end
end Go.Proofs.YtjmnnkhdadoehaaGreat

/- Abstract walks: drawn regions whose head makes boxes. -/
namespace Go.Proofs.YtjmnnkhdadoehaaGreat
set_option linter.unusedSimpArgs false
set_option linter.unusedVariables false
open Go Go.RowKit Go.Shelf
section
variable {P : Program} {N : Nat} {K0 : Know} {w0 : Bas} {S : St} {ops : Array Oper}
def AllocOp (P : Program) (o : Oper) (d : Nat) (cs : List AV) : Prop := ∃ (e : TypeId) (z : Value) (ty : TypeId) (pos : String) (aft : Array Edge), o = ⟨some d, .alloc e, ty, pos, aft, none⟩ ∧ ((P.info? e).bind (·.zero)) = some z ∧ z.cells.toList.map AV.val = cs
structure HInvA (al : Nat → Option (Nat × List AV)) (ops : Array Oper) (n : Nat) (S : St) (vs : List AV) (listed : Array Bool) (T : St) : Prop where
  arrs : T.arrs = S.arrs
  got : ∀ j t v, j < n → listed.getD j true = true → dstAt ops j = some t → vs[j]? = some v → T.get t = v
  no : ∀ t, (∀ j, j < n → listed.getD j true = true → dstAt ops j ≠ some t) → T.get t = S.get t
  box1 : ∀ p ∈ S.boxes, p ∈ T.boxes
  box2 : ∀ j p, j < n → listed.getD j true = true → al j = some p → p ∈ T.boxes
  box3 : ∀ p ∈ T.boxes, p ∈ S.boxes ∨ ∃ j, j < n ∧ listed.getD j true = true ∧ al j = some p
  fr : ∀ j d cs, j < n → listed.getD j true = false → al j = some (d, cs) → T.free d = true ∧ T.boxes.all (fun p => !(Nat.beq p.1 d)) = true
def HA (P : Program) (N : Nat) (K0 : Know) (w0 : Bas) (ops : Array Oper) : List Oper → St → List (Nat × List AV) → List AV → List (Option (Nat × List AV)) → (List AV → List (Option (Nat × List AV)) → St → Prop) → Prop
  | [], S, nb, vs, al, Q => Q vs al ⟨S.tmps, nb ++ S.boxes, S.arrs⟩
  | o :: l, S, nb, vs, al, Q => (∃ v, HOk P N K0 w0 ops o S v ∧ HA P N K0 w0 ops l (S.putO o.dst v) nb (vs ++ [v]) (al ++ [none]) Q) ∨
      ∃ d cs, AllocOp P o d cs ∧ d < N ∧ HA P N K0 w0 ops l (S.putO o.dst (.ptr d 0)) ((d, cs) :: nb) (vs ++ [.ptr d 0]) (al ++ [some (d, cs)]) Q
theorem HA.elim : ∀ {l : List Oper} {S : St} {nb : List (Nat × List AV)} {vs0 : List AV} {al0 : List (Option (Nat × List AV))} {Q : List AV → List (Option (Nat × List AV)) → St → Prop}, HA P N K0 w0 ops l S nb vs0 al0 Q → ∃ (vs : List AV) (al : List (Option (Nat × List AV))), vs.length = l.length ∧ al.length = l.length ∧
    (∀ (i : Nat) o v q, l[i]? = some o → vs[i]? = some v → al[i]? = some q → (q = none ∧ HOk P N K0 w0 ops o (foldS S (l.take i) (vs.take i)) v) ∨ ∃ d cs, q = some (d, cs) ∧ AllocOp P o d cs ∧ d < N ∧ v = .ptr d 0) ∧
    Q (vs0 ++ vs) (al0 ++ al) ⟨(foldS S l vs).tmps, ((al.filterMap id).reverse ++ nb) ++ S.boxes, S.arrs⟩
  | [], S, nb, vs0, al0, Q, h => ⟨[], [], rfl, rfl, fun i o v q h => by simp at h, by simpa [HA, foldS] using h⟩
  | o :: l, S, nb, vs0, al0, Q, h => by
    have hm : ∀ A, (S.putO o.dst A).boxes = S.boxes ∧ (S.putO o.dst A).arrs = S.arrs := fun A => by cases o.dst <;> exact ⟨rfl, rfl⟩
    rcases h with ⟨v, h1, h2⟩ | ⟨d, cs, h1, hd, h2⟩
    · obtain ⟨vs, al, h3, h4, h5, h6⟩ := HA.elim h2
      refine ⟨v :: vs, none :: al, by simp [h3], by simp [h4], fun i o' v' q ho hv hq => ?_, ?_⟩
      · cases i with
        | zero => simp at ho hv hq; subst ho hv hq; exact .inl ⟨rfl, h1⟩
        | succ i => exact h5 i o' v' q (by simpa using ho) (by simpa using hv) (by simpa using hq)
      · rw [(hm v).1, (hm v).2] at h6
        simpa [foldS] using h6
    · obtain ⟨vs, al, h3, h4, h5, h6⟩ := HA.elim h2
      refine ⟨.ptr d 0 :: vs, some (d, cs) :: al, by simp [h3], by simp [h4], fun i o' v' q ho hv hq => ?_, ?_⟩
      · cases i with
        | zero => simp at ho hv hq; subst ho hv hq; exact .inr ⟨d, cs, rfl, h1, hd, rfl⟩
        | succ i => exact h5 i o' v' q (by simpa using ho) (by simpa using hv) (by simpa using hq)
      · rw [(hm _).1, (hm _).2] at h6
        simpa [foldS] using h6
/-! ### Steps of the head -/
section
variable {l : List Oper} {d : Option Nat} {opn : Op} {ty : TypeId} {pos : String} {aft : Array Edge} {nb : List (Nat × List AV)} {vs : List AV} {al : List (Option (Nat × List AV))} {Q : List AV → List (Option (Nat × List AV)) → St → Prop} {tm : List (Nat × AV)} {bs : List (Nat × List AV)} {ar : List (Nat × Arr)}
theorem HA.box {e : TypeId} {t : Nat} {z : Value} {cs : List AV} (hz : ((P.info? e).bind (·.zero)) = some z) (hcs : z.cells.toList.map AV.val = cs) (hd : t < N) (k : HA P N K0 w0 ops l ⟨(t, .ptr t 0) :: tm, bs, ar⟩ ((t, cs) :: nb) (vs ++ [.ptr t 0]) (al ++ [some (t, cs)]) Q) :
    HA P N K0 w0 ops (⟨some t, .alloc e, ty, pos, aft, none⟩ :: l) ⟨tm, bs, ar⟩ nb vs al Q :=
  .inr ⟨t, cs, ⟨e, z, ty, pos, aft, rfl, hz, hcs⟩, hd, k⟩
theorem HA.done (h : Q vs al ⟨tm, nb ++ bs, ar⟩) : HA P N K0 w0 ops [] ⟨tm, bs, ar⟩ nb vs al Q := h
end
end
end Go.Proofs.YtjmnnkhdadoehaaGreat

/- Abstract walks: jumps back to a label. -/
namespace Go.Proofs.YtjmnnkhdadoehaaGreat
set_option linter.unusedSimpArgs false
set_option linter.unusedVariables false
open Go Go.RowKit Go.Shelf
section
variable {P : Program} {N : Nat} {K0 : Know} {w0 : Bas} {S : St} {QE : Exit → St → Prop} {α : Type}
def jumpA (l : Nat) (J : St → Prop) (QE : Exit → St → Prop) : Exit → St → Prop
  | .goto l', S' => l' = l ∧ J S'
  | e, S' => QE e S'
open Classical in
theorem CT.scopeX (T : α → St) (G : α → Prop) (μ : α → Nat) (l : Nat) {c rest : Code} (hf : findLabel c l = some rest)
    (pass : ∀ x, G x → CT P N K0 w0 rest (T x) (jumpA l (fun S' => ∃ x', G x' ∧ μ x' < μ x ∧ Sub S' (T x')) QE))
    (first : (∀ x, G x → CT P N K0 w0 rest (T x) (jumpA l (fun S' => ∃ x', G x' ∧ Sub S' (T x')) QE)) → CT P N K0 w0 c S (jumpA l (fun S' => ∃ x', G x' ∧ Sub S' (T x')) QE)) : CT P N K0 w0 (.scope c) S QE := by
  intro K n a w hs
  let H : Nat → Act → World → Prop := fun m a w => ∃ x K n, G x ∧ μ x = m ∧ Sim N K0 w0 (T x) K n a w
  let M : Act → World → Nat := fun a w => if h : ∃ m, H m a w ∧ ∀ k, H k a w → m ≤ k then Classical.choose h else 0
  have hM : ∀ {m a w}, H m a w → M a w ≤ m := fun {m a w} h => by
    have hex : ∃ m, H m a w ∧ ∀ k, H k a w → m ≤ k := least (fun m => H m a w) m h
    simp only [M, dif_pos hex]
    exact (Classical.choose_spec hex).2 m h
  have hM2 : ∀ {a w}, (∃ m, H m a w) → H (M a w) a w := fun {a w} ⟨m, h⟩ => by
    have hex : ∃ m, H m a w ∧ ∀ k, H k a w → m ≤ k := least (fun m => H m a w) m h
    simp only [M, dif_pos hex]
    exact (Classical.choose_spec hex).1
  have hto : ∀ {S' K' n' a' w' x'}, Sim N K0 w0 S' K' n' a' w' → G x' → Sub S' (T x') → H (μ x') a' w' := fun {S' K' n' a' w' x'} hs' hg hsub => by
    obtain ⟨h1, h2, h3⟩ := hsub
    exact ⟨x', K', _, hg, rfl, hs'.relab h1 h2 h3⟩
  have weak : ∀ x, G x → CT P N K0 w0 rest (T x) (jumpA l (fun S' => ∃ x', G x' ∧ Sub S' (T x')) QE) := fun x hx K n a w hs => by
    refine wp_mono (pass x hx K n a w hs) ?_
    rintro e a' w' ⟨K', n', S', h1, h2⟩
    refine ⟨K', n', S', ?_, h2⟩
    cases e with
    | goto l' => obtain ⟨q1, x', q2, _, q3⟩ := h1; exact ⟨q1, x', q2, q3⟩
    | _ => exact h1
  refine wp_scope_jumps l (fun a w => ∃ m, H m a w) M hf (wp_mono (first weak K n a w hs) ?_) ?_
  · rintro e a' w' ⟨K', n', S', h1, h2⟩
    cases e with
    | goto l' => obtain ⟨q1, x', q2, q3⟩ := h1; exact ⟨q1, _, hto h2 q2 q3⟩
    | _ => exact ⟨K', n', S', h1, h2⟩
  · intro a w hJ
    obtain ⟨x, K, n, hg, hm, hs⟩ := hM2 hJ
    refine wp_mono (pass x hg K n a w hs) ?_
    rintro e a' w' ⟨K', n', S', h1, h2⟩
    cases e with
    | goto l' =>
      obtain ⟨q1, x', q2, q3, q4⟩ := h1
      have h3 := hto h2 q2 q4
      have := hM h3
      exact ⟨q1, ⟨_, h3⟩, by omega⟩
    | _ => exact ⟨K', n', S', h1, h2⟩
theorem CT.scopeS (T : α → St) (G : α → Prop) (μ : α → Nat) (l : Nat) {c r : Code} (hf : findLabel c l = some (.seq .skip r))
    (pass : ∀ x, G x → CT P N K0 w0 r (T x) (jumpA l (fun S' => ∃ x', G x' ∧ μ x' < μ x ∧ Sub S' (T x')) QE))
    (first : (∀ x, G x → CT P N K0 w0 r (T x) (jumpA l (fun S' => ∃ x', G x' ∧ Sub S' (T x')) QE)) → CT P N K0 w0 c S (jumpA l (fun S' => ∃ x', G x' ∧ Sub S' (T x')) QE)) : CT P N K0 w0 (.scope c) S QE := by
  refine CT.scopeX T G μ l hf (fun x hx => CT.seq (CT.skip (pass x hx))) fun _ => first fun x hx K n a w hs => ?_
  refine wp_mono (pass x hx K n a w hs) ?_
  rintro e a' w' ⟨K', n', S', h1, h2⟩
  refine ⟨K', n', S', ?_, h2⟩
  cases e with
  | goto l' => obtain ⟨q1, x', q2, _, q3⟩ := h1; exact ⟨q1, x', q2, q3⟩
  | _ => exact h1
end
end Go.Proofs.YtjmnnkhdadoehaaGreat

/- Abstract walks: drawn regions whose head makes boxes and fills them. -/
namespace Go.Proofs.YtjmnnkhdadoehaaGreat
set_option linter.unusedSimpArgs false
set_option linter.unusedVariables false
open Go Go.RowKit Go.Shelf
theorem getB_some : ∀ {l : List (Nat × List AV)} {d : Nat} {cs : List AV}, (d, cs) ∈ l → ∃ c, getB l d = some c
  | (s, A) :: l, d, cs, h => by
    simp only [getB]
    cases hb : Nat.beq s d with
    | true => exact ⟨A, rfl⟩
    | false =>
      rcases List.mem_cons.1 h with e | h
      · injection e with e1 e2; rw [← e1] at hb; simp at hb
      · exact getB_some h
theorem setBx_keep {l : List (Nat × List AV)} {t b : Nat} {cs c : List AV} (h : (b, c) ∈ l) (hne : b ≠ t) : (b, c) ∈ setBx l t cs := by
  refine List.mem_map.2 ⟨(b, c), h, ?_⟩
  cases hb : Nat.beq b t with
  | true => exact absurd (Nat.eq_of_beq_eq_true hb) hne
  | false => simp only [hb]; rfl
theorem setBx_has {l : List (Nat × List AV)} {t : Nat} {cs c : List AV} (h : (t, c) ∈ l) : (t, cs) ∈ setBx l t cs := by
  refine List.mem_map.2 ⟨(t, c), h, ?_⟩
  simp
inductive HI
  | val | box (d : Nat) (cs : List AV) | put (d : Nat) (cs : List AV)
section
variable {P : Program} {N : Nat} {K0 : Know} {w0 : Bas} {S : St} {ops : Array Oper}
def PutOp (P : Program) (o : Oper) (S : St) (d : Nat) (cs0 cs1 : List AV) : Prop := ∃ (t : TypeId) (y : Operand) (v : Value) (ty : TypeId) (pos : String) (aft : Array Edge), o = ⟨none, .store t (.tmp d) y, ty, pos, aft, none⟩ ∧ S.opv (.tmp d) = .ptr d 0 ∧ S.opv y = .val v ∧
  (P.info? t).map (·.size) = some v.cells.size ∧ v.cells.all (·.oneCell') = true ∧ v.cells.size = cs0.length ∧ v.cells.toList.map AV.val = cs1
structure HInvS (its : Nat → HI) (ops : Array Oper) (n : Nat) (S : St) (vs : List AV) (listed : Array Bool) (T : St) : Prop where
  arrs : T.arrs = S.arrs
  got : ∀ j t v, j < n → listed.getD j true = true → dstAt ops j = some t → vs[j]? = some v → T.get t = v
  no : ∀ t, (∀ j, j < n → listed.getD j true = true → dstAt ops j ≠ some t) → T.get t = S.get t
  box1 : ∀ p ∈ S.boxes, p ∈ T.boxes
  box3 : ∀ d cs, (d, cs) ∈ T.boxes → (d, cs) ∈ S.boxes ∨ ∃ j cs0, j < n ∧ listed.getD j true = true ∧ its j = .box d cs0
  own0 : ∀ j d cs0, j < n → listed.getD j true = true → its j = .box d cs0 → (∀ i cs1, i < n → listed.getD i true = true → its i ≠ .put d cs1) → (d, cs0) ∈ T.boxes
  own1 : ∀ i d cs1, i < n → listed.getD i true = true → its i = .put d cs1 → (d, cs1) ∈ T.boxes
  fr : ∀ j d cs, j < n → listed.getD j true = false → its j = .box d cs → T.free d = true ∧ T.boxes.all (fun p => !(Nat.beq p.1 d)) = true
theorem any_headS {its : Nat → HI} {n g : Nat} {vs : List AV} {Q' : Exit → Act → World → Prop} (hdN : dstsB ops N = true) (hD : discB ops n = true) (hs : Region.sinkB .any ops n = true) (hc : Region.chainB .any ops n = true) (hn : n < ops.size) (hvl : vs.length = n)
    (hok : ∀ i o v, i < n → ops[i]? = some o → vs[i]? = some v → (its i = .val ∧ HOk P N K0 w0 ops o (foldS S (ops.toList.take i) (vs.take i)) v) ∨ (∃ d cs, its i = .box d cs ∧ AllocOp P o d cs ∧ d < N ∧ v = .ptr d 0) ∨
      ∃ d cs0 cs1 j, its i = .put d cs1 ∧ j < i ∧ its j = .box d cs0 ∧ dstAt ops j = some d ∧ PutOp P o (foldS S (ops.toList.take i) (vs.take i)) d cs0 cs1)
    (hfree : ∀ i j v d cs, i < n → j < n → i ≠ j → vs[i]? = some v → its j = .box d cs → v.free d = true)
    (hnames : ∀ i j d cs d' cs', i < n → j < n → i ≠ j → its i = .box d cs → its j = .box d' cs' → d ≠ d' ∧ cs.all (AV.free1 d') = true)
    (hputs : ∀ i j d cs d' cs', i < n → j < n → its i = .put d cs → its j = .box d' cs' → cs.all (AV.free1 d') = true)
    (hsn : ∀ j d cs, j < n → its j = .box d cs → ∀ c, (d, c) ∉ S.boxes)
    (huniq : ∀ i j d cs cs', i < n → j < n → its i = .put d cs → its j = .put d cs' → i = j)
    (hT : ∀ T K nm a w, HInvS its ops n S vs (canon ops.size n) T → Sim N K0 w0 T K nm a w → wpAny P .any ops Q' g (canon ops.size n) a w) :
    ∀ (f : Nat) (listed : Array Bool) (T : St) (K : Know) (nm : Nm) (a : Act) (w : World), cntU listed n = f → HeadInv .any ops n listed → HInvS its ops n S vs listed T → Sim N K0 w0 T K nm a w → wpAny P .any ops Q' (f + g) listed a w := by
  intro f
  induction f with
  | zero =>
    intro listed T K nm a w hf inv hi hsim
    have hall := cntU_zero n hf
    have e : listed = canon ops.size n := by
      apply Array.ext
      · simp [canon, inv.size]
      · intro j h1 h2
        by_cases hj : j < n
        · have := hall j hj
          simp [canon, hj]
          simpa [h1] using this
        · have := inv.tail j (by omega) (by rw [← inv.size]; exact h1)
          simp [canon, hj]
          simpa [h1] using this
    subst e
    rw [Nat.zero_add]
    exact hT T K nm a w hi hsim
  | succ f ih =>
    intro listed T K nm a w hf inv hi hsim
    obtain ⟨i0, hi0, hun0, hmin⟩ := cntU_pos n (by omega : cntU listed n ≠ 0)
    rw [show f + 1 + g = (f + g) + 1 by omega]
    have hready0 : i0 ∈ Region.ready .any ops listed := by
      obtain ⟨oi, hoi, hback, _⟩ := discB_spec hD hi0
      refine mem_ready.2 ⟨hun0, oi, hoi, fun e he hb => ?_⟩
      have h1 := hmin e.on (hback e he hb)
      have hlt : e.on < listed.size := by rw [inv.size]; have := hback e he hb; omega
      simpa [hlt] using h1
    refine ⟨fun h0 => (by rw [h0] at hready0; cases hready0), fun i hr => ?_⟩
    have hin : i < n := by
      rcases Nat.lt_or_ge i n with h | h
      · exact h
      · exact absurd hr (tail_waits hs hc hn inv _ i0 rfl hi0 hun0 i h)
    obtain ⟨hun, oi', hoi', hall⟩ := mem_ready.1 hr
    obtain ⟨oi, hoi, hback, hdisc⟩ := discB_spec hD hin
    obtain rfl : oi' = oi := Option.some.inj (hoi'.symm.trans hoi)
    have hvi : i < vs.length := by rw [hvl]; exact hin
    have hv : vs[i]? = some vs[i] := List.getElem?_eq_getElem hvi
    have hstep := hok i _ _ hin hoi hv
    have hlisted : ∀ j, listed.getD j false = true → listed.getD j true = true := fun j hj => by
      cases h : listed.getD j true with
      | true => rfl
      | false => rw [getD_both h] at hj; cases hj
    -- the operands are as in the order of the text
    have hget : ∀ t, t ∈ oi'.looksAt ops → T.get t = (foldS S (ops.toList.take i) (vs.take i)).get t := by
      intro t ht
      have htk : ∀ (j : Nat) o, (ops.toList.take i)[j]? = some o → j < i ∧ ops[j]? = some o := fun j o ho => by
        rw [List.getElem?_take] at ho
        split at ho
        · rename_i hj; exact ⟨hj, by simpa using ho⟩
        · cases ho
      by_cases hex : ∃ j, j < n ∧ dstAt ops j = some t
      · obtain ⟨j, hj, hd⟩ := hex
        have huniq : ∀ k, k < n → dstAt ops k = some t → k = j := fun k hk hdk => by
          obtain ⟨_, _, _, hdk'⟩ := discB_spec hD hk
          rcases (hdk' j t hj hd).1 with h | h
          · exact h
          · exact absurd hdk h
        obtain ⟨_, hw⟩ := hdisc j t hj hd
        obtain ⟨hw1, hw2⟩ := hw ht
        rcases Nat.lt_or_ge j i with hji | hji
        · obtain ⟨o', ho', e, he, hb, hon⟩ := Region.waitsFor_spec (hw1 hji)
          obtain rfl : o' = oi' := Option.some.inj (ho'.symm.trans hoi)
          have hlj := hall e he hb
          rw [hon] at hlj
          have hvj : j < vs.length := by omega
          rw [hi.got j t vs[j] hj (hlisted j hlj) hd (List.getElem?_eq_getElem hvj)]
          cases hoj : ops[j]? with
          | none => simp [dstAt, hoj] at hd
          | some oj =>
            symm
            refine foldS_get _ _ S t j oj vs[j] (by rw [List.getElem?_take, if_pos hji]; simpa using hoj) (by rw [List.getElem?_take, if_pos hji]; exact List.getElem?_eq_getElem hvj) (by simpa [dstAt, hoj] using hd) (fun j' o' hjj ho' => ?_)
            obtain ⟨h1, h2⟩ := htk j' o' ho'
            intro hdd
            have := huniq j' (by omega) (by simp [dstAt, h2, hdd])
            omega
        · have hnl : listed.getD j true ≠ true := by
            rcases Nat.lt_or_ge i j with hij | hij
            · intro hl
              obtain ⟨oj, hoj, e, he, hb, hon⟩ := Region.waitsFor_spec (hw2 hij)
              have hjs : j < listed.size := by rw [inv.size]; omega
              have := inv.closed j oj hoj (by simpa [hjs] using hl) e he hb
              rw [hon, getD_both hun] at this
              cases this
            · have : j = i := by omega
              subst this
              rw [hun]; simp
          rw [hi.no t (fun k hk hl hdk => by have := huniq k hk hdk; subst this; exact hnl hl)]
          symm
          refine foldS_get_no _ _ S t (fun k o ho hdk => ?_)
          obtain ⟨h1, h2⟩ := htk k o ho
          have := huniq k (by omega) (by simp [dstAt, h2, hdk])
          omega
      · rw [hi.no t (fun k hk _ hdk => hex ⟨k, hk, hdk⟩)]
        symm
        refine foldS_get_no _ _ S t (fun k o ho hdk => ?_)
        obtain ⟨h1, h2⟩ := htk k o ho
        exact hex ⟨k, by omega, by simp [dstAt, h2, hdk]⟩
    have hset : ∀ j, j ≠ i → (listed.setIfInBounds i true).getD j true = listed.getD j true := fun j hj => getD_set_ne true (Ne.symm hj)
    have hseti : (listed.setIfInBounds i true).getD i true = true := by
      have : i < listed.size := by rw [inv.size]; omega
      simp [this]
    have hsub : ∀ j, listed.getD j true = true → (listed.setIfInBounds i true).getD j true = true := fun j hj => by
      by_cases e : j = i
      · subst e; exact hseti
      · rw [hset j e]; exact hj
    have hsub2 : ∀ j, j ≠ i → (listed.setIfInBounds i true).getD j true = true → listed.getD j true = true := fun j e hj => by rw [← hset j e]; exact hj
    have hnextT : ∀ (T' : St) (K' : Know) (nm' : Nm) (a' : Act) (w' : World), T'.tmps = (T.putO oi'.dst vs[i]).tmps → T'.arrs = S.arrs → (∀ p ∈ S.boxes, p ∈ T'.boxes) →
        (∀ d cs, (d, cs) ∈ T'.boxes → (d, cs) ∈ T.boxes ∨ its i = .box d cs ∨ (its i = .put d cs ∧ (∃ c, (d, c) ∈ T.boxes) ∧ ∃ j cs0, j < n ∧ listed.getD j true = true ∧ its j = .box d cs0)) →
        (∀ d cs, (d, cs) ∈ T.boxes → (∀ cs1, its i ≠ .put d cs1) → (d, cs) ∈ T'.boxes) → (∀ d cs, its i = .box d cs ∨ its i = .put d cs → (d, cs) ∈ T'.boxes) →
        Sim N K0 w0 T' K' nm' a' w' → wpAny P .any ops Q' (f + g) (listed.setIfInBounds i true) a' w' := by
      intro T' K' nm' a' w' htm har hb1 hb3 hb0 hbi hs'
      have hg2 : ∀ t, T'.get t = (T.putO oi'.dst vs[i]).get t := fun t => by unfold St.get; rw [htm]
      refine ih _ T' K' nm' a' w' (by rw [cntU_set hun, if_pos hin]; omega) (inv.set hr hin) ⟨har, fun j t v hj hl hd hvv => ?_, fun t hno => ?_, hb1, fun d cs hp => ?_, fun j d cs0 hj hl hp hno => ?_, fun j d cs1 hj hl hp => ?_, fun j d cs hj hl hp => ?_⟩ hs'
      · rw [hg2]
        by_cases e : j = i
        · subst e
          have hdi : oi'.dst = some t := by simpa [dstAt, hoi] using hd
          rw [hdi, putO_get_eq]
          rw [hv] at hvv
          exact Option.some.inj hvv
        · have hne : oi'.dst ≠ some t := fun h => by
            have := (hdisc j t hj hd).1
            rcases this with h1 | h1
            · exact e h1.symm
            · exact h1 (by simp [dstAt, hoi, h])
          rw [putO_get_ne hne]
          exact hi.got j t v hj (hsub2 j e hl) hd hvv
      · rw [hg2]
        have hne : oi'.dst ≠ some t := fun h => hno i hin hseti (by simp [dstAt, hoi, h])
        rw [putO_get_ne hne]
        exact hi.no t (fun j hj hl => hno j hj (hsub j hl))
      · rcases hb3 d cs hp with h | h | ⟨h, _, j, cs0, q1, q2, q3⟩
        · rcases hi.box3 d cs h with h | ⟨j, cs0, q1, q2, q3⟩
          · exact .inl h
          · exact .inr ⟨j, cs0, q1, hsub j q2, q3⟩
        · exact .inr ⟨i, cs, hin, hseti, h⟩
        · exact .inr ⟨j, cs0, q1, hsub j q2, q3⟩
      · by_cases e : j = i
        · subst e; exact hbi d cs0 (.inl hp)
        · exact hb0 d cs0 (hi.own0 j d cs0 hj (hsub2 j e hl) hp fun i' cs1 q1 q2 => hno i' cs1 q1 (hsub i' q2)) fun cs1 hc => hno i cs1 hin hseti hc
      · by_cases e : j = i
        · subst e; exact hbi d cs1 (.inr hp)
        · exact hb0 d cs1 (hi.own1 j d cs1 hj (hsub2 j e hl) hp) fun cs2 hc => e (huniq j i d cs1 cs2 hj hin hp hc)
      · have e : j ≠ i := fun e => by subst e; rw [hseti] at hl; cases hl
        rw [hset j e] at hl
        obtain ⟨f1, f2⟩ := hi.fr j d cs hj hl hp
        have hvf := hfree i j vs[i] d cs hin hj (Ne.symm e) hv hp
        have hput : (T.putO oi'.dst vs[i]).tmps.all (fun p => p.2.free d) = true := by
          cases hdst : oi'.dst with
          | none => exact St.free_tmps f1
          | some t => simp only [St.putO, St.put, List.all_cons, hvf, Bool.true_and]; exact St.free_tmps f1
        have hne : ∀ {d1 : Nat}, d1 ≠ d → (!(Nat.beq d1 d)) = true := fun {d1} h => by
          cases hb : Nat.beq d1 d with
          | true => exact absurd (Nat.eq_of_beq_eq_true hb) h
          | false => rfl
        refine ⟨?_, List.all_eq_true.2 fun p hp2 => ?_⟩
        · simp only [St.free, Bool.and_eq_true]
          refine ⟨⟨by rw [htm]; exact hput, List.all_eq_true.2 fun p hp2 => ?_⟩, ?_⟩
          · obtain ⟨d1, c1⟩ := p
            rcases hb3 d1 c1 hp2 with h | h | ⟨h, _⟩
            · exact List.all_eq_true.1 (St.free_boxes f1) _ h
            · exact (hnames i j d1 c1 d cs hin hj (Ne.symm e) h hp).2
            · exact hputs i j d1 c1 d cs hin hj h hp
          · rw [har, ← hi.arrs]
            simp only [St.free, Bool.and_eq_true] at f1
            exact f1.2
        · obtain ⟨d1, c1⟩ := p
          rcases hb3 d1 c1 hp2 with h | h | ⟨h, ⟨c, hc⟩, _⟩
          · exact List.all_eq_true.1 f2 _ h
          · exact hne (hnames i j d1 c1 d cs hin hj (Ne.symm e) h hp).1
          · exact List.all_eq_true.1 f2 (d1, c) hc
    have hdO := dstsB_spec (N := N) hdN hoi
    have hgN : ∀ g' want dg, oi'.guard = some (g', want) → ((ops[g']?).bind (·.dst)) = some dg → dg < N := fun g' want dg _ hd => dstsB_at hdN hd
    unfold wpOp
    simp only [hoi]
    rcases hstep with ⟨hal, hstep⟩ | ⟨d, cs, hal, ⟨e, z, ty, pos, aft, rfl, hz, hcs⟩, hdN', hvd⟩ | ⟨d, cs0, cs1, j0, hal, hj0, hij0, hdj0, ⟨t, y, v, ty, pos, aft, rfl, hx, hy, hk, ho1, hsz, hcs⟩⟩
    · -- a value
      have hgd : ∀ b, GuardIs ops oi' (foldS S (ops.toList.take i) (vs.take i)) b → GuardIs ops oi' T b := fun b hb => by
        unfold GuardIs at *
        cases hg : oi'.guard with
        | none => rw [hg] at hb; exact hb
        | some p =>
          obtain ⟨g', want⟩ := p
          rw [hg] at hb
          obtain ⟨dg, h1, h2⟩ := hb
          refine ⟨dg, h1, ?_⟩
          rw [hget dg (by unfold Oper.looksAt; rw [hg]; simp [h1])]
          exact h2
      have hput : ∀ (A : AV), (T.putO oi'.dst A).boxes = T.boxes ∧ (T.putO oi'.dst A).arrs = T.arrs := fun A => by cases oi'.dst <;> exact ⟨rfl, rfl⟩
      have hnext : ∀ (K' : Know) (nm' : Nm) (a' : Act) (w' : World), Sim N K0 w0 (T.putO oi'.dst vs[i]) K' nm' a' w' → wpAny P .any ops Q' (f + g) (listed.setIfInBounds i true) a' w' := fun K' nm' a' w' hs' =>
        hnextT _ K' nm' a' w' rfl (by rw [(hput _).2]; exact hi.arrs) (fun p hp => by rw [(hput _).1]; exact hi.box1 p hp) (fun d cs hp => by rw [(hput _).1] at hp; exact .inl hp) (fun d cs hp _ => by rw [(hput _).1]; exact hp) (fun d cs h => by rw [hal] at h; rcases h with h | h <;> cases h) hs'
      have hT0 : Sim N K0 w0 ⟨T.tmps, S.boxes, S.arrs⟩ K nm a w := hsim.weak ⟨⟨fun t => .inl (.inl rfl), fun d A hd => by rw [hi.arrs]; exact hd⟩, fun d cs' hd => ⟨cs', hi.box1 _ hd, rfl, fun i c c' q1 q2 => by rw [q1] at q2; injection q2 with q2; exact .inl q2.symm⟩⟩
        (fun d c c' q1 q2 => hsim.boxOne d c c' (hi.box1 _ q1) (hi.box1 _ q2))
      rcases hstep with ⟨hg, hop⟩ | ⟨hg, hvu⟩
      · rw [wanted_of hsim (hgd true hg) hgN]
        simp only [if_true]
        refine .inl (upon_false (Oper.wp_mono ?_ (hop ⟨T.tmps, S.boxes, S.arrs⟩ K nm a w hT0 (foldS_boxes _ _ S).symm (fun x hx => ?_))))
        · rintro a' w' ⟨c, K', rfl, h1, h2, h3, h4, h5, h6⟩
          refine hnext K' nm _ w' ((hsim.grow h1 h2 h3 h4).putO hdO h5 fun r e k xs hr => ?_)
          rcases h6 r e k xs hr with h | ⟨d, cs, hm, hA⟩
          · exact .inl h
          · exact .inr ⟨d, cs, hi.box1 _ hm, hA⟩
        · cases x with
          | tmp t => exact hget t (List.mem_append_left _ (List.mem_filterMap.2 ⟨.tmp t, by simpa using hx, rfl⟩))
          | const v => rfl
          | global g => rfl
          | func f => rfl
      · rw [wanted_of hsim (hgd false hg) hgN]
        simp only [Bool.false_eq_true, if_false]
        refine hnext K nm _ w (hsim.putO hdO ?_ ?_)
        · rw [hvu]; exact rfl
        · rw [hvu]; exact has_val
    · -- a box
      rw [wanted_of hsim (b := true) (show GuardIs ops ⟨some d, .alloc e, ty, pos, aft, none⟩ T true from rfl) hgN]
      simp only [if_true]
      obtain ⟨f1, f2⟩ := hi.fr i d cs hin hun hal
      refine .inl (upon_false (Oper.wp_mono ?_ (OpT.alloc (Q := fun S' => S' = ⟨(d, .ptr d 0) :: T.tmps, (d, cs) :: T.boxes, T.arrs⟩) hz hcs hdN' f1 f2 rfl K nm a w hsim)))
      rintro a' w' ⟨K', n', S', rfl, hs'⟩
      refine hnextT ⟨(d, .ptr d 0) :: T.tmps, (d, cs) :: T.boxes, T.arrs⟩ K' n' a' w' (by rw [hvd]; rfl) hi.arrs (fun p hp => List.mem_cons_of_mem _ (hi.box1 p hp)) (fun d' cs' hp => ?_) (fun d' cs' hp _ => List.mem_cons_of_mem _ hp) (fun d' cs' h => ?_) hs'
      · rcases List.mem_cons.1 hp with h | h
        · injection h with h1 h2; subst h1 h2; exact .inr (.inl hal)
        · exact .inl h
      · rw [hal] at h
        rcases h with h | h
        · injection h with h1 h2; subst h1 h2; exact List.mem_cons_self
        · cases h
    · -- a store into a box that was made
      have hlooks : ∀ q ∈ [Operand.tmp d, y], ∀ tq, q = .tmp tq → tq ∈ (⟨none, .store t (.tmp d) y, ty, pos, aft, none⟩ : Oper).looksAt ops := fun q hq tq hqt => by
        subst hqt
        refine List.mem_append_left _ (List.mem_filterMap.2 ⟨.tmp tq, ?_, rfl⟩)
        simp only [Op.operands]
        simpa using hq
      have hopv : ∀ q ∈ [Operand.tmp d, y], T.opv q = (foldS S (ops.toList.take i) (vs.take i)).opv q := fun q hq => by
        cases q with
        | tmp tq => exact hget tq (hlooks _ hq tq rfl)
        | const v => rfl
        | global g => rfl
        | func f => rfl
      have hlj : listed.getD j0 true = true := by
        obtain ⟨_, hw⟩ := hdisc j0 d (by omega) hdj0
        obtain ⟨hw1, _⟩ := hw (hlooks _ (by simp) d rfl)
        obtain ⟨o', ho', e, he, hb, hon⟩ := Region.waitsFor_spec (hw1 hj0)
        obtain rfl : o' = _ := Option.some.inj (ho'.symm.trans hoi)
        have := hall e he hb
        rw [hon] at this
        exact hlisted j0 this
      have hnop : ∀ i' c, i' < n → listed.getD i' true = true → its i' ≠ .put d c := fun i' c q1 q2 hc => by
        have := huniq i' i d c cs1 q1 hin hc hal
        subst this
        rw [hun] at q2; cases q2
      have hm0 := hi.own0 j0 d cs0 (by omega) hlj hij0 hnop
      have hget0 : getB T.boxes d = some cs0 := by
        obtain ⟨c, hc⟩ : ∃ c, getB T.boxes d = some c := getB_some hm0
        rw [hc, hsim.boxOne d c cs0 (getB_mem hc) hm0]
      rw [wanted_of hsim (b := true) (show GuardIs ops ⟨none, .store t (.tmp d) y, ty, pos, aft, none⟩ T true from rfl) hgN]
      simp only [if_true]
      refine .inl (upon_false (Oper.wp_mono ?_ (OpT.store (Q := fun S' => S' = ⟨T.tmps, setBx T.boxes d cs1, T.arrs⟩) (b := d) (o := 0) ((hopv _ (by simp)).trans hx) ((hopv _ (by simp)).trans hy) hget0 hk ho1 (by omega) (by rw [List.take_zero, List.nil_append, List.drop_eq_nil_of_le (by omega), List.append_nil]; exact hcs) rfl rfl K nm a w hsim)))
      rintro a' w' ⟨K', n', S', rfl, hs'⟩
      refine hnextT ⟨T.tmps, setBx T.boxes d cs1, T.arrs⟩ K' n' a' w' rfl hi.arrs (fun p hp => ?_) (fun d' cs' hp => ?_) (fun d' cs' hp hne => ?_) (fun d' cs' h => ?_) hs'
      · obtain ⟨d', c'⟩ := p
        refine setBx_keep (hi.box1 _ hp) fun e => ?_
        subst e
        exact hsn j0 d' cs0 (by omega) hij0 c' hp
      · obtain ⟨c, hc, ⟨rfl, rfl⟩ | ⟨hne, rfl⟩⟩ := setBx_mem hp
        · exact .inr (.inr ⟨hal, ⟨c, hc⟩, j0, cs0, by omega, hlj, hij0⟩)
        · exact .inl hc
      · exact setBx_keep hp fun e => by subst e; exact hne cs1 hal
      · rw [hal] at h
        rcases h with h | h
        · cases h
        · injection h with h1 h2; subst h1 h2; exact setBx_has hm0
def putOf : List HI → Nat → List AV → List AV
  | [], _, c => c
  | .put d' c' :: l, d, c => cond (Nat.beq d' d) c' (putOf l d c)
  | .val :: l, d, c => putOf l d c
  | .box _ _ :: l, d, c => putOf l d c
theorem putOf_spec : ∀ (l : List HI) (d : Nat) (c : List AV), (∃ i : Nat, l[i]? = some (.put d (putOf l d c))) ∨ (putOf l d c = c ∧ ∀ (i : Nat) c', l[i]? ≠ some (.put d c'))
  | [], d, c => .inr ⟨rfl, fun i c' h => by simp at h⟩
  | .put d' c' :: l, d, c => by
    simp only [putOf]
    cases hb : Nat.beq d' d with
    | true =>
      have := Nat.eq_of_beq_eq_true hb
      subst this
      exact .inl ⟨0, rfl⟩
    | false =>
      rcases putOf_spec l d c with ⟨i, h⟩ | ⟨h1, h2⟩
      · exact .inl ⟨i + 1, by simpa using h⟩
      · refine .inr ⟨h1, fun i c'' h => ?_⟩
        cases i with
        | zero => simp at h; rw [h.1] at hb; simp at hb
        | succ i => exact h2 i c'' (by simpa using h)
  | .val :: l, d, c => by
    rcases putOf_spec l d c with ⟨i, h⟩ | ⟨h1, h2⟩
    · exact .inl ⟨i + 1, by simpa [putOf] using h⟩
    · refine .inr ⟨h1, fun i c'' h => ?_⟩
      cases i with
      | zero => simp at h
      | succ i => exact h2 i c'' (by simpa using h)
  | .box a b :: l, d, c => by
    rcases putOf_spec l d c with ⟨i, h⟩ | ⟨h1, h2⟩
    · exact .inl ⟨i + 1, by simpa [putOf] using h⟩
    · refine .inr ⟨h1, fun i c'' h => ?_⟩
      cases i with
      | zero => simp at h
      | succ i => exact h2 i c'' (by simpa using h)
def HI.fin (its : List HI) : HI → Option (Nat × List AV)
  | .box d cs0 => some (d, putOf its d cs0)
  | _ => none
def finB (its : List HI) : List (Nat × List AV) := its.filterMap (HI.fin its)
def HS (P : Program) (N : Nat) (K0 : Know) (w0 : Bas) (ops : Array Oper) : List Oper → St → List AV → List HI → (List AV → List HI → St → Prop) → Prop
  | [], S, vs, its, Q => Q vs its ⟨S.tmps, finB its ++ S.boxes, S.arrs⟩
  | o :: l, S, vs, its, Q => (∃ v, HOk P N K0 w0 ops o S v ∧ HS P N K0 w0 ops l (S.putO o.dst v) (vs ++ [v]) (its ++ [.val]) Q) ∨
      (∃ d cs, AllocOp P o d cs ∧ d < N ∧ HS P N K0 w0 ops l (S.putO o.dst (.ptr d 0)) (vs ++ [.ptr d 0]) (its ++ [.box d cs]) Q) ∨
      ∃ (d : Nat) (cs0 cs1 : List AV) (j : Nat), its[j]? = some (HI.box d cs0) ∧ PutOp P o S d cs0 cs1 ∧ HS P N K0 w0 ops l (S.putO o.dst .dead) (vs ++ [.dead]) (its ++ [.put d cs1]) Q
theorem HS.elim : ∀ {l : List Oper} {S : St} {vs0 : List AV} {its0 : List HI} {Q : List AV → List HI → St → Prop}, HS P N K0 w0 ops l S vs0 its0 Q → ∃ (vs : List AV) (its : List HI), vs.length = l.length ∧ its.length = l.length ∧
    (∀ (i : Nat) o v q, l[i]? = some o → vs[i]? = some v → its[i]? = some q → (q = .val ∧ HOk P N K0 w0 ops o (foldS S (l.take i) (vs.take i)) v) ∨ (∃ d cs, q = .box d cs ∧ AllocOp P o d cs ∧ d < N ∧ v = .ptr d 0) ∨
      ∃ (d : Nat) (cs0 cs1 : List AV) (j : Nat), q = .put d cs1 ∧ j < its0.length + i ∧ (its0 ++ its)[j]? = some (HI.box d cs0) ∧ PutOp P o (foldS S (l.take i) (vs.take i)) d cs0 cs1) ∧
    Q (vs0 ++ vs) (its0 ++ its) ⟨(foldS S l vs).tmps, finB (its0 ++ its) ++ S.boxes, S.arrs⟩
  | [], S, vs0, its0, Q, h => ⟨[], [], rfl, rfl, fun i o v q h => by simp at h, by simpa [HS, foldS] using h⟩
  | o :: l, S, vs0, its0, Q, h => by
    have hm : ∀ A, (S.putO o.dst A).boxes = S.boxes ∧ (S.putO o.dst A).arrs = S.arrs := fun A => by cases o.dst <;> exact ⟨rfl, rfl⟩
    have go : ∀ (v : AV) (q : HI), ((q = .val ∧ HOk P N K0 w0 ops o S v) ∨ (∃ d cs, q = .box d cs ∧ AllocOp P o d cs ∧ d < N ∧ v = .ptr d 0) ∨ ∃ (d : Nat) (cs0 cs1 : List AV) (j : Nat), q = .put d cs1 ∧ its0[j]? = some (HI.box d cs0) ∧ PutOp P o S d cs0 cs1) →
        HS P N K0 w0 ops l (S.putO o.dst v) (vs0 ++ [v]) (its0 ++ [q]) Q → ∃ (vs : List AV) (its : List HI), vs.length = (o :: l).length ∧ its.length = (o :: l).length ∧
        (∀ (i : Nat) o' v q, (o :: l)[i]? = some o' → vs[i]? = some v → its[i]? = some q → (q = .val ∧ HOk P N K0 w0 ops o' (foldS S ((o :: l).take i) (vs.take i)) v) ∨ (∃ d cs, q = .box d cs ∧ AllocOp P o' d cs ∧ d < N ∧ v = .ptr d 0) ∨
          ∃ (d : Nat) (cs0 cs1 : List AV) (j : Nat), q = .put d cs1 ∧ j < its0.length + i ∧ (its0 ++ its)[j]? = some (HI.box d cs0) ∧ PutOp P o' (foldS S ((o :: l).take i) (vs.take i)) d cs0 cs1) ∧
        Q (vs0 ++ vs) (its0 ++ its) ⟨(foldS S (o :: l) vs).tmps, finB (its0 ++ its) ++ S.boxes, S.arrs⟩ := fun v q h1 h2 => by
      obtain ⟨vs, its, h3, h4, h5, h6⟩ := HS.elim h2
      refine ⟨v :: vs, q :: its, by simp [h3], by simp [h4], fun i o' v' q' ho hv hq => ?_, ?_⟩
      · cases i with
        | zero =>
          simp at ho hv hq
          subst ho hv hq
          rcases h1 with h1 | h1 | ⟨d, cs0, cs1, j, e1, e2, e3⟩
          · exact .inl h1
          · exact .inr (.inl h1)
          · refine .inr (.inr ⟨d, cs0, cs1, j, e1, (List.getElem?_eq_some_iff.1 e2).1, ?_, e3⟩)
            rw [List.getElem?_append_left (List.getElem?_eq_some_iff.1 e2).1]; exact e2
        | succ i =>
          rcases h5 i o' v' q' (by simpa using ho) (by simpa using hv) (by simpa using hq) with h | h | ⟨d, cs0, cs1, j, e1, e2, e3, e4⟩
          · exact .inl h
          · exact .inr (.inl h)
          · exact .inr (.inr ⟨d, cs0, cs1, j, e1, by simp at e2; omega, by simpa using e3, e4⟩)
      · rw [(hm v).1, (hm v).2] at h6
        simpa [foldS] using h6
    rcases h with ⟨v, h1, h2⟩ | ⟨d, cs, h1, hd, h2⟩ | ⟨d, cs0, cs1, j, h1, h2, h3⟩
    · exact go v .val (.inl ⟨rfl, h1⟩) h2
    · exact go _ _ (.inr (.inl ⟨d, cs, rfl, h1, hd, rfl⟩)) h2
    · exact go _ _ (.inr (.inr ⟨d, cs0, cs1, j, rfl, h1, h2⟩)) h3
def freshS (S : St) (vs : List AV) (its : List HI) : Bool :=
  (List.range its.length).all fun j => match its[j]? with
    | some (.box d cs) => S.free d && S.boxes.all (fun p => !(Nat.beq p.1 d)) && (List.range its.length).all fun i => (Nat.beq i j || ((match vs[i]? with | some v => v.free d | none => false) && (match its[i]? with | some (.box d' cs') => !(Nat.beq d' d) && cs'.all (AV.free1 d) | _ => true))) && (match its[i]? with | some (.put _ cs') => cs'.all (AV.free1 d) | _ => true)
    | some (.put d cs) => (List.range its.length).all fun i => Nat.beq i j || (match its[i]? with | some (.put d' _) => !(Nat.beq d' d) | _ => true)
    | _ => true
theorem ne_beq {i j : Nat} (h : i ≠ j) : Nat.beq i j = false := by
  cases hb : Nat.beq i j with
  | false => rfl
  | true => exact absurd (Nat.eq_of_beq_eq_true hb) h
theorem freshS_box {S : St} {vs : List AV} {its : List HI} (h : freshS S vs its = true) {j d : Nat} {cs : List AV} (hj : its[j]? = some (.box d cs)) :
    S.free d = true ∧ S.boxes.all (fun p => !(Nat.beq p.1 d)) = true ∧ ∀ i, i < its.length → (i ≠ j → (∀ v, vs[i]? = some v → v.free d = true) ∧ ∀ d' cs', its[i]? = some (.box d' cs') → d' ≠ d ∧ cs'.all (AV.free1 d) = true) ∧ ∀ d' cs', its[i]? = some (.put d' cs') → cs'.all (AV.free1 d) = true := by
  have hlt := (List.getElem?_eq_some_iff.1 hj).1
  have h1 := List.all_eq_true.1 h j (List.mem_range.2 hlt)
  rw [hj] at h1
  simp only [Bool.and_eq_true] at h1
  refine ⟨h1.1.1, h1.1.2, fun i hi => ?_⟩
  have h2 := List.all_eq_true.1 h1.2 i (List.mem_range.2 hi)
  rw [Bool.and_eq_true] at h2
  refine ⟨fun hne => ?_, fun d' cs' hd => ?_⟩
  · have h3 := h2.1
    rw [ne_beq hne, Bool.false_or, Bool.and_eq_true] at h3
    refine ⟨fun v hv => ?_, fun d' cs' hd => ?_⟩
    · have := h3.1; rw [hv] at this; exact this
    · have := h3.2
      rw [hd] at this
      simp only [Bool.and_eq_true] at this
      refine ⟨fun e => ?_, this.2⟩
      have h4 := this.1
      rw [e, show Nat.beq d d = true from by simp] at h4
      cases h4
  · have := h2.2; rw [hd] at this; exact this
theorem freshS_put {S : St} {vs : List AV} {its : List HI} (h : freshS S vs its = true) {i j d : Nat} {cs cs' : List AV} (hi : its[i]? = some (.put d cs)) (hj : its[j]? = some (.put d cs')) : i = j := by
  refine Classical.byContradiction fun hne => ?_
  have h1 := List.all_eq_true.1 h j (List.mem_range.2 (List.getElem?_eq_some_iff.1 hj).1)
  rw [hj] at h1
  have h2 := List.all_eq_true.1 h1 i (List.mem_range.2 (List.getElem?_eq_some_iff.1 hi).1)
  rw [ne_beq hne, Bool.false_or, hi] at h2
  simp at h2
theorem draw_anyS {Q : St → Prop} {l : List Oper} (n : Nat) (hB : headB l.toArray N n = true)
    (h : HS P N K0 w0 l.toArray (l.take n) S [] [] fun vs its S' => freshS S vs its = true ∧ LT P N K0 w0 l.toArray (l.drop n) S' Q) {K : Know} {nm : Nm} {a : Act} {w : World} (hsim : Sim N K0 w0 S K nm a w) :
    wpAny P .any l.toArray (fun e a' w' => e = .normal ∧ ∃ K' n' S', Q S' ∧ Sim N K0 w0 S' K' n' a' w') l.toArray.size (Array.replicate l.toArray.size false) a { w with drawn := w.drawn + 1 } := by
  simp only [headB, Bool.and_eq_true, decide_eq_true_eq] at hB
  obtain ⟨⟨⟨⟨⟨hdN, hD⟩, hs⟩, hc⟩, hn⟩, hseq⟩ := hB
  have hn' : n < l.length := by simpa using hn
  obtain ⟨vs, its, h1, h1', h2, hfr, h3⟩ := h.elim
  have htl : (l.take n).length = n := by simp; omega
  rw [htl] at h1 h1'
  simp only [List.nil_append] at hfr h3
  have hal : ∀ (j : Nat) (q : HI), q ≠ .val → (its[j]?).getD .val = q → its[j]? = some q := fun j q hq hj => by
    cases hh : its[j]? with
    | none => rw [hh] at hj; exact absurd hj.symm hq
    | some q' => rw [hh] at hj; simp only [Option.getD_some] at hj; rw [hj]
  have hbx : ∀ (j d : Nat) cs, (its[j]?).getD .val = .box d cs → its[j]? = some (.box d cs) := fun j d cs hj => hal j _ (by simp) hj
  have hpt : ∀ (j d : Nat) cs, (its[j]?).getD .val = .put d cs → its[j]? = some (.put d cs) := fun j d cs hj => hal j _ (by simp) hj
  have inv0 : HeadInv .any l.toArray n (Array.replicate l.toArray.size false) :=
    ⟨by simp, fun j oj _ hl => (by rw [getD_replicate_false] at hl; cases hl), fun t _ ht => getD_in (by simpa using ht) (getD_replicate_false _ _)⟩
  have H := any_headS (P := P) (S := S) (its := fun j => (its[j]?).getD .val) (g := l.toArray.size - n) (vs := vs) (Q' := fun e a' w' => e = .normal ∧ ∃ K' n' S', Q S' ∧ Sim N K0 w0 S' K' n' a' w') hdN hD hs hc hn h1
    (fun i o v hi ho hv => by
      have hqi : its[i]? = some its[i] := List.getElem?_eq_getElem (by omega)
      have := h2 i o v _ (by rw [List.getElem?_take, if_pos hi]; simpa using ho) hv hqi
      rw [List.take_take, Nat.min_eq_left (Nat.le_of_lt hi)] at this
      simp only [hqi, Option.getD_some]
      rcases this with h | h | ⟨d, cs0, cs1, j, q1, q2, q3, q4⟩
      · exact .inl h
      · exact .inr (.inl h)
      · simp only [List.length_nil, Nat.zero_add, List.nil_append] at q2 q3
        refine .inr (.inr ⟨d, cs0, cs1, j, q1, q2, by rw [q3]; rfl, ?_, q4⟩)
        have hjl : j < n := by omega
        cases hoj : l.toArray[j]? with
        | none => simp at hoj; omega
        | some oj =>
          have hvj : vs[j]? = some vs[j] := List.getElem?_eq_getElem (by omega)
          rcases h2 j oj _ _ (by rw [List.getElem?_take, if_pos hjl]; simpa using hoj) hvj q3 with ⟨h, _⟩ | ⟨d', cs', h, ⟨_, _, _, _, _, rfl, _⟩, _⟩ | ⟨_, _, _, _, h, _⟩
          · cases h
          · injection h with h1 _; subst h1; simp [dstAt, hoj]
          · cases h)
    (fun i j v d cs hi hj hne hv hq => (((freshS_box hfr (hbx j d cs hq)).2.2 i (by omega)).1 hne).1 v hv)
    (fun i j d cs d' cs' hi hj hne q1 q2 => (((freshS_box hfr (hbx j d' cs' q2)).2.2 i (by omega)).1 hne).2 d cs (hbx i d cs q1))
    (fun i j d cs d' cs' hi hj q1 q2 => ((freshS_box hfr (hbx j d' cs' q2)).2.2 i (by omega)).2 d cs (hpt i d cs q1))
    (fun j d cs hj hq c hm => by
      have := List.all_eq_true.1 (freshS_box hfr (hbx j d cs hq)).2.1 _ hm
      simp at this)
    (fun i j d cs cs' hi hj q1 q2 => freshS_put hfr (hpt i d cs q1) (hpt j d cs' q2))
    (fun T K nm a w hi hsim => by
      have hcan : ∀ j, j < n → (canon l.toArray.size n).getD j true = true := fun j hj => by
        have hjl : j < l.length := by omega
        simp [canon, hj, hjl]
      have hbx2 : ∀ p, p ∈ finB its ++ S.boxes → p ∈ T.boxes := fun p hp => by
        rcases List.mem_append.1 hp with hp | hp
        · obtain ⟨q, hq, hid⟩ := List.mem_filterMap.1 hp
          cases q with
          | val => cases hid
          | put d c => cases hid
          | box d cs0 =>
            simp only [HI.fin, Option.some.injEq] at hid
            subst hid
            obtain ⟨j, hj, hqj⟩ := List.getElem_of_mem hq
            have hjs : its[j]? = some (.box d cs0) := by rw [List.getElem?_eq_getElem hj, hqj]
            rcases putOf_spec its d cs0 with ⟨i, h⟩ | ⟨h, hno⟩
            · have hil := (List.getElem?_eq_some_iff.1 h).1
              exact hi.own1 i d _ (by omega) (hcan i (by omega)) (by rw [h]; rfl)
            · rw [h]
              exact hi.own0 j d cs0 (by omega) (hcan j (by omega)) (by rw [hjs]; rfl) fun i cs1 q1 q2 q3 => hno i cs1 (hpt i d cs1 q3)
        · exact hi.box1 p hp
      have hw : T.wk ⟨(foldS S (l.take n) vs).tmps, finB its ++ S.boxes, S.arrs⟩ := by
        refine ⟨⟨fun t => .inl (.inl ?_), fun d A hd => by rw [hi.arrs]; exact hd⟩, fun d cs' hd => ⟨cs', hbx2 _ hd, rfl, fun i c c' q1 q2 => by rw [q1] at q2; injection q2 with q2; exact .inl q2.symm⟩⟩
        show (foldS S (l.take n) vs).get t = T.get t
        by_cases hex : ∃ j, j < n ∧ dstAt l.toArray j = some t
        · obtain ⟨j, hj, hd⟩ := hex
          have hvj : j < vs.length := by omega
          rw [hi.got j t vs[j] hj (hcan j hj) hd (List.getElem?_eq_getElem hvj)]
          cases hoj : l.toArray[j]? with
          | none => simp [dstAt, hoj] at hd
          | some oj =>
            refine foldS_get _ _ S t j oj vs[j] (by rw [List.getElem?_take, if_pos hj]; simpa using hoj) (List.getElem?_eq_getElem hvj) (by simpa [dstAt, hoj] using hd) (fun j' o' hjj ho' => ?_)
            rw [List.getElem?_take] at ho'
            split at ho'
            · rename_i hj'
              intro hdd
              have ho2 : l.toArray[j']? = some o' := by simpa using ho'
              obtain ⟨_, _, _, hdk'⟩ := discB_spec hD hj'
              rcases (hdk' j t hj hd).1 with h | h
              · omega
              · exact h (by simp [dstAt, ho2, hdd])
            · cases ho'
        · rw [hi.no t (fun k hk _ hdk => hex ⟨k, hk, hdk⟩)]
          refine foldS_get_no _ _ S t (fun k o ho hdk => ?_)
          rw [List.getElem?_take] at ho
          split at ho
          · rename_i hk
            have ho2 : l.toArray[k]? = some o := by simpa using ho
            exact hex ⟨k, hk, by simp [dstAt, ho2, hdk]⟩
          · cases ho
      have hsim' := hsim.weak hw (fun d c c' q1 q2 => hsim.boxOne d c c' (hbx2 _ q1) (hbx2 _ q2))
      have hdl : (l.drop n).length = l.toArray.size - n := by simp
      have := wpAny_of_seq (md := .any) (ops := l.toArray) (P := P) (l.drop n) n (canon l.toArray.size n) a w (Q' := fun e a' w' => e = .normal ∧ ∃ K' n' S', Q S' ∧ Sim N K0 w0 S' K' n' a' w') (fun j => by simp [List.getElem?_drop]) (by rw [hdl]; exact hseq)
        (wpList_mono_ (fun e a' w' hh => by
          exact hh) _ _ _ (h3 K nm a w hsim'))
      rwa [hdl] at this)
    n (Array.replicate l.toArray.size false) S K nm a _ (cntU_false _ n (by omega)) inv0
    ⟨rfl, fun j t v hj hl => (by rw [getD_in (by simp; omega) (getD_replicate_false _ _)] at hl; cases hl), fun t _ => rfl, fun p hp => hp, fun d cs hp => .inl hp, fun j d cs0 hj hl => (by rw [getD_in (by simp; omega) (getD_replicate_false _ _)] at hl; cases hl), fun j d cs1 hj hl => (by rw [getD_in (by simp; omega) (getD_replicate_false _ _)] at hl; cases hl), fun j d cs hj _ hq => ⟨(freshS_box hfr (hbx j d cs hq)).1, (freshS_box hfr (hbx j d cs hq)).2.1⟩⟩ hsim.drew
  rwa [show n + (l.toArray.size - n) = l.toArray.size by omega] at H
theorem CT.seqDS {QE : Exit → St → Prop} {c2 : Code} {id : Nat} {l : List Oper} {tm : List (Nat × AV)} {bs : List (Nat × List AV)} {ar : List (Nat × Arr)} (n : Nat) (hm : P.follows .mixedOrders = true) (hB : headB l.toArray N n = true)
    (h : HS P N K0 w0 l.toArray (l.take n) ⟨tm, bs, ar⟩ [] [] fun vs its S' => freshS ⟨tm, bs, ar⟩ vs its = true ∧ LT P N K0 w0 l.toArray (l.drop n) S' fun S'' => CT P N K0 w0 c2 S'' QE) : CT P N K0 w0 ((Code.region id l.toArray true).seq c2) ⟨tm, bs, ar⟩ QE := by
  refine CT.seq ?_
  intro K nm a w hsim
  refine wp_mono (wp_region_any hm (draw_anyS n hB h hsim)) ?_
  rintro e a' w' ⟨rfl, K', n', S', h1, h2⟩
  exact ⟨K', n', S', h1, h2⟩
section
variable {l : List Oper} {opn : Op} {ty : TypeId} {pos : String} {aft : Array Edge} {vs : List AV} {its : List HI} {Q : List AV → List HI → St → Prop} {tm : List (Nat × AV)} {bs : List (Nat × List AV)} {ar : List (Nat × Arr)}
theorem HS.val1 {t : Nat} {v : AV} (h : OpH P N K0 w0 ⟨some t, opn, ty, pos, aft, none⟩ ⟨tm, bs, ar⟩ v) (k : HS P N K0 w0 ops l ⟨(t, v) :: tm, bs, ar⟩ (vs ++ [v]) (its ++ [.val]) Q) : HS P N K0 w0 ops (⟨some t, opn, ty, pos, aft, none⟩ :: l) ⟨tm, bs, ar⟩ vs its Q :=
  .inl ⟨v, .inl ⟨rfl, h⟩, k⟩
theorem HS.box {e : TypeId} {t : Nat} {z : Value} {cs : List AV} (hz : ((P.info? e).bind (·.zero)) = some z) (hcs : z.cells.toList.map AV.val = cs) (hd : t < N) (k : HS P N K0 w0 ops l ⟨(t, .ptr t 0) :: tm, bs, ar⟩ (vs ++ [.ptr t 0]) (its ++ [.box t cs]) Q) :
    HS P N K0 w0 ops (⟨some t, .alloc e, ty, pos, aft, none⟩ :: l) ⟨tm, bs, ar⟩ vs its Q :=
  .inr (.inl ⟨t, cs, ⟨e, z, ty, pos, aft, rfl, hz, hcs⟩, hd, k⟩)
theorem HS.put {t : TypeId} {d : Nat} {y : Operand} {v : Value} {cs0 cs1 : List AV} (j : Nat) (hj : its[j]? = some (.box d cs0)) (hx : St.opv ⟨tm, bs, ar⟩ (.tmp d) = .ptr d 0) (hy : St.opv ⟨tm, bs, ar⟩ y = .val v) (hk : (P.info? t).map (·.size) = some v.cells.size) (ho1 : v.cells.all (·.oneCell') = true) (hsz : v.cells.size = cs0.length) (hcs : v.cells.toList.map AV.val = cs1)
    (k : HS P N K0 w0 ops l ⟨tm, bs, ar⟩ (vs ++ [.dead]) (its ++ [.put d cs1]) Q) : HS P N K0 w0 ops (⟨none, .store t (.tmp d) y, ty, pos, aft, none⟩ :: l) ⟨tm, bs, ar⟩ vs its Q :=
  .inr (.inr ⟨d, cs0, cs1, j, hj, ⟨t, y, v, ty, pos, aft, rfl, hx, hy, hk, ho1, hsz, hcs⟩, k⟩)
theorem HS.done (h : Q vs its ⟨tm, finB its ++ bs, ar⟩) : HS P N K0 w0 ops [] ⟨tm, bs, ar⟩ vs its Q := h
end
end
end Go.Proofs.YtjmnnkhdadoehaaGreat

/- Abstract walks: drawn regions in whose head a call gives a row of the call's own. -/
namespace Go.Proofs.YtjmnnkhdadoehaaGreat
set_option linter.unusedSimpArgs false
set_option linter.unusedVariables false
open Go Go.RowKit Go.Shelf
section
variable {P : Program} {N : Nat} {K0 : Know} {w0 : Bas} {S : St} {ops : Array Oper}
structure HInvR (rs : Nat → Bool) (ops : Array Oper) (n : Nat) (S : St) (vs : List AV) (listed : Array Bool) (T : St) : Prop where
  mem : T.mem = S.mem
  got : ∀ j t v, j < n → listed.getD j true = true → dstAt ops j = some t → vs[j]? = some v → T.get t = v
  no : ∀ t, (∀ j, j < n → listed.getD j true = true → dstAt ops j ≠ some t) → T.get t = S.get t
  fr : ∀ j d, j < n → listed.getD j true = false → rs j = true → dstAt ops j = some d → T.free d = true
section
variable {l : List Oper} {opn : Op} {ty : TypeId} {pos : String} {aft : Array Edge} {gd : Option (Nat × Bool)} {vs : List AV} {rs : List Bool} {Q : List AV → List Bool → St → Prop} {tm : List (Nat × AV)} {bs : List (Nat × List AV)} {ar : List (Nat × Arr)}
end
end
end Go.Proofs.YtjmnnkhdadoehaaGreat
