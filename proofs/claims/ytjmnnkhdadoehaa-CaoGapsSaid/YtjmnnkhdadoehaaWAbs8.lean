/- Abstract walks: loops over functions. -/
import Derived.Test.YtjmnnkhdadoehaaWAbs4
import Derived.TacticsIn
import Derived.OrdersIn
import Derived.RangeFuncNested
import Derived.ScopeJumps
namespace Go.Proofs.Ytjmnnkhdadoehaa
set_option linter.unusedSimpArgs false
set_option linter.unusedVariables false
open Go Go.RowKit Go.Shelf

section
variable {P : Program} {n : Nat} {Q : Exit → Act → World → Prop} {a : Act} {w : World}
def noDefer (o : Oper) : Bool := match o.op with | .defer _ => false | _ => true
theorem noDefer_ne {o : Oper} (h : noDefer o = true) : ∀ c, o.op ≠ .defer c := fun c e => by simp [noDefer, e] at h
/-- What an operation does, it does in a round. -/
theorem operIn {o : Oper} (l : Nat) {next : Act → World → Prop} (hnd : noDefer o = true) (h : o.wp P a w next Q) : o.wpIn (Fence.wide.inRound l) n P a w next Q := by
  refine ⟨fun _ _ => trivial, ?_⟩
  rw [Fence.inRound_round, Oper.semAt_some l a.eval o (noDefer_ne hnd)]
  unfold Oper.wp at h
  revert h
  generalize (execOp a.eval o).run P w = r
  intro h
  cases r with
  | ok x w' =>
    cases x with
    | value v => exact h
    | skip => exact h
    | defer d => exact h
    | enter f args => exact ⟨fun hh => (by cases hh), CallsIn.inRound l (callsIn_wide.2 h)⟩
    | row row args => exact ⟨fun hh => (by cases hh), fun c cs _ => by
        obtain ⟨v, w'', q1, q2⟩ := h c cs
        exact ⟨v, w'', q1, (StepsIn.of_steps q2).mono fun m _ => by
          intro g hg
          exact fenced_wide P m g hg⟩⟩
    | _ => exact h.elim
  | halt x w' => cases x <;> exact h
theorem listIn {ops : Array Oper} (l : Nat) (hQ : ¬ LetsOut Q) : ∀ (os : List Oper) (a : Act) (w : World), os.all noDefer = true → wpList P ops Q os a w → wpListIn (Fence.wide.inRound l) n P ops Q os a w
  | [], _, _, _, h => h
  | o :: os, a, w, hnd, h => by
    simp only [List.all_cons, Bool.and_eq_true] at hnd
    simp only [wpList] at h
    simp only [wpListIn]
    split
    · rename_i hw
      rw [if_pos hw] at h
      rcases h with h | ⟨_, h⟩
      · exact Oper.wpIn_mono (fun a' w' h' => listIn l hQ os a' w' hnd.2 h') (operIn l hnd.1 h)
      · exact absurd h hQ
    · rename_i hw
      rw [if_neg hw] at h
      exact ⟨fun _ _ => trivial, listIn l hQ os _ _ hnd.2 h⟩
theorem anyIn {ops : Array Oper} {md : Region.Mode} (l : Nat) (hQ : ¬ LetsOut Q) (hnd : ops.all noDefer = true) : ∀ (f : Nat) (listed : Array Bool) (a : Act) (w : World), wpAny P md ops Q f listed a w → wpAnyIn (Fence.wide.inRound l) n P md ops Q f listed a w
  | 0, _, _, _, h => h
  | f + 1, listed, a, w, h => by
    refine ⟨h.1, fun i hi => ?_⟩
    have h1 := h.2 i hi
    unfold wpOp at h1
    unfold wpOpIn
    cases ho : ops[i]? with
    | none => simp only [ho] at h1 ⊢; exact anyIn l hQ hnd f _ a w h1
    | some o =>
      simp only [ho] at h1 ⊢
      have hno : noDefer o = true := (Array.all_eq_true_iff_forall_mem.1 hnd) o (Array.mem_of_getElem? ho)
      split
      · rename_i hw
        rw [if_pos hw] at h1
        rcases h1 with h1 | ⟨_, h1⟩
        · exact Oper.wpIn_mono (fun a' w' h' => anyIn l hQ hnd f _ a' w' h') (operIn l hno h1)
        · exact absurd h1 hQ
      · rename_i hw
        rw [if_neg hw] at h1
        exact ⟨fun _ _ => trivial, anyIn l hQ hnd f _ _ w h1⟩
end

theorem LT.mono {P : Program} {N : Nat} {K0 : Know} {w0 : Bas} {ops : Array Oper} {l : List Oper} {S : St} {Q Q' : St → Prop} (h : LT P N K0 w0 ops l S Q) (hq : ∀ S', Q S' → Q' S') : LT P N K0 w0 ops l S Q' := fun K n a w hs =>
  wpList_mono_ (fun e a' w' ⟨h1, K', n', S', h2, h3⟩ => ⟨h1, K', n', S', hq _ h2, h3⟩) _ _ _ (h K n a w hs)
/-! ### Code in a round -/
def CTI (l : Nat) (P : Program) (N : Nat) (K0 : Know) (w0 : Bas) (c : Code) (S : St) (Q : Exit → St → Prop) : Prop :=
  ∀ n K nm a w, Sim N K0 w0 S K nm a w → c.wpIn (Fence.wide.inRound l) n P (fun e a' w' => ∃ K' n' S', Q e S' ∧ Sim N K0 w0 S' K' n' a' w') a w
section
variable {l : Nat} {P : Program} {N : Nat} {K0 : Know} {w0 : Bas} {S S' : St} {QE : Exit → St → Prop} {c c1 c2 : Code} {tm : List (Nat × AV)} {bs : List (Nat × List AV)} {ar : List (Nat × Arr)} {x : Operand}
theorem CTI.mono {QE' : Exit → St → Prop} (h : CTI l P N K0 w0 c S QE) (hq : ∀ e S, QE e S → QE' e S) : CTI l P N K0 w0 c S QE' :=
  fun n K nm a w hs => wpIn_mono (h n K nm a w hs) fun _ _ _ ⟨K', n', S', h1, h2⟩ => ⟨K', n', S', hq _ _ h1, h2⟩
theorem CTI.seq1 (h : CTI l P N K0 w0 c1 ⟨tm, bs, ar⟩ (thenA (fun S' => CTI l P N K0 w0 c2 S' QE) QE)) : CTI l P N K0 w0 (c1.seq c2) ⟨tm, bs, ar⟩ QE := by
  intro n K nm a w hs
  refine wpIn_seq (wpIn_mono (h n K nm a w hs) ?_)
  rintro e a' w' ⟨K', n', S', h1, h2⟩
  cases e with
  | normal => exact h1 n K' n' a' w' h2
  | exit id => exact ⟨K', n', S', h1, h2⟩
  | goto id => exact ⟨K', n', S', h1, h2⟩
  | ret => exact ⟨K', n', S', h1, h2⟩
  | panic ch => exact ⟨K', n', S', h1, h2⟩
  | outgrown => exact ⟨K', n', S', h1, h2⟩
theorem CTI.skip (h : QE .normal S) : CTI l P N K0 w0 .skip S QE := fun n K nm a w hs => wpIn_skip ⟨K, nm, S, h, hs⟩
theorem CTI.exit {id : Nat} (h : QE (.exit id) S) : CTI l P N K0 w0 (.exit id) S QE := fun n K nm a w hs => wpIn_exit ⟨K, nm, S, h, hs⟩
theorem CTI.ret (h : QE .ret S) : CTI l P N K0 w0 .ret S QE := fun n K nm a w hs => wpIn_ret ⟨K, nm, S, h, hs⟩
theorem CTI.cond {t : Bool} (hc : S.opv x = .val (.bool t)) (ht : t = true → CTI l P N K0 w0 c1 S QE) (hf : t = false → CTI l P N K0 w0 c2 S QE) : CTI l P N K0 w0 (.cond x c1 c2) S QE := by
  intro n K nm a w hs
  have h1 := hs.opv x
  rw [hc] at h1
  exact wpIn_cond_split h1 (fun e => ht e n K nm a w hs) (fun e => hf e n K nm a w hs)
theorem CTI.condT (hc : St.opv ⟨tm, bs, ar⟩ x = .val (.bool true)) (h : CTI l P N K0 w0 c1 ⟨tm, bs, ar⟩ QE) : CTI l P N K0 w0 (.cond x c1 c2) ⟨tm, bs, ar⟩ QE := CTI.cond hc (fun _ => h) (fun e => by cases e)
theorem CTI.condF (hc : St.opv ⟨tm, bs, ar⟩ x = .val (.bool false)) (h : CTI l P N K0 w0 c2 ⟨tm, bs, ar⟩ QE) : CTI l P N K0 w0 (.cond x c1 c2) ⟨tm, bs, ar⟩ QE := CTI.cond hc (fun e => by cases e) (fun _ => h)
theorem CTI.condD {q : Prop} [Decidable q] (hc : St.opv ⟨tm, bs, ar⟩ x = .val (.bool (decide q))) (ht : q → CTI l P N K0 w0 c1 ⟨tm, bs, ar⟩ QE) (hf : ¬ q → CTI l P N K0 w0 c2 ⟨tm, bs, ar⟩ QE) : CTI l P N K0 w0 (.cond x c1 c2) ⟨tm, bs, ar⟩ QE :=
  CTI.cond hc (fun h => ht (of_decide_eq_true h)) (fun h => hf (of_decide_eq_false h))
theorem CTI.condN {q : Prop} [Decidable q] (hc : St.opv ⟨tm, bs, ar⟩ x = .val (.bool (!decide q))) (ht : ¬ q → CTI l P N K0 w0 c1 ⟨tm, bs, ar⟩ QE) (hf : q → CTI l P N K0 w0 c2 ⟨tm, bs, ar⟩ QE) : CTI l P N K0 w0 (.cond x c1 c2) ⟨tm, bs, ar⟩ QE :=
  CTI.cond hc (fun h => ht (by simpa using h)) (fun h => hf (by simpa using h))
theorem CTI.block {id : Nat} (h : CTI l P N K0 w0 c S (blockA id QE)) : CTI l P N K0 w0 (.block id c) S QE := by
  intro n K nm a w hs
  refine wpIn_block (wpIn_mono (h n K nm a w hs) ?_)
  rintro e a' w' ⟨K', n', S', h1, h2⟩
  cases e with
  | exit id' =>
    by_cases e : id' = id
    · subst e
      have : (Nat.beq id' id') = true := Nat.beq_refl id'
      simp only [blockA, this, cond_true] at h1
      simp only [Exit.inBlock, if_true]
      exact ⟨K', n', S', h1, h2⟩
    · have : Nat.beq id' id = false := by
        cases e' : Nat.beq id' id with
        | false => rfl
        | true => exact absurd (Nat.eq_of_beq_eq_true e') e
      simp only [blockA, this, cond_false] at h1
      simp only [Exit.inBlock, e, if_false]
      exact ⟨K', n', S', h1, h2⟩
  | normal => exact ⟨K', n', S', h1, h2⟩
  | goto id => exact ⟨K', n', S', h1, h2⟩
  | ret => exact ⟨K', n', S', h1, h2⟩
  | panic ch => exact ⟨K', n', S', h1, h2⟩
  | outgrown => exact ⟨K', n', S', h1, h2⟩
theorem CTI.region {id : Nat} {os : List Oper} (hnd : os.all noDefer = true) (h : LT P N K0 w0 os.toArray os S (fun S' => QE .normal S')) : CTI l P N K0 w0 (.region id os.toArray false) S QE := by
  intro n K nm a w hs
  refine wpIn_mono (wpIn_region_lit (listIn l (by rintro ⟨a2, w2, e, _⟩; cases e) os a w hnd (h K nm a w hs))) ?_
  rintro e a' w' ⟨rfl, K', n', S', h1, h2⟩
  exact ⟨K', n', S', h1, h2⟩
theorem CTI.draw {id : Nat} {os : List Oper} (m : Nat) (hm : P.follows .mixedOrders = true) (hB : headB os.toArray N m = true) (hnd : os.all noDefer = true)
    (h : HT P N K0 w0 os.toArray (os.take m) S fun S' => LT P N K0 w0 os.toArray (os.drop m) S' fun S'' => QE .normal S'') : CTI l P N K0 w0 (.region id os.toArray true) S QE := by
  intro n K nm a w hs
  refine wpIn_mono (wpIn_region_any hm (anyIn l (by rintro ⟨a2, w2, e, _⟩; cases e) (by simpa using hnd) _ _ a _ (draw_any m hB h hs))) ?_
  rintro e a' w' ⟨rfl, K', n', S', h1, h2⟩
  exact ⟨K', n', S', h1, h2⟩
theorem CTI.seqD {id : Nat} {os : List Oper} (m : Nat) (hm : P.follows .mixedOrders = true) (hB : headB os.toArray N m = true) (hnd : os.all noDefer = true)
    (h : HT P N K0 w0 os.toArray (os.take m) ⟨tm, bs, ar⟩ fun S' => LT P N K0 w0 os.toArray (os.drop m) S' fun S'' => CTI l P N K0 w0 c2 S'' QE) : CTI l P N K0 w0 ((Code.region id os.toArray true).seq c2) ⟨tm, bs, ar⟩ QE := CTI.seq1 (CTI.draw m hm hB hnd h)
theorem CTI.seqR {id : Nat} {os : List Oper} (hnd : os.all noDefer = true) (h : LT P N K0 w0 os.toArray os ⟨tm, bs, ar⟩ (fun S' => CTI l P N K0 w0 c2 S' QE)) : CTI l P N K0 w0 ((Code.region id os.toArray false).seq c2) ⟨tm, bs, ar⟩ QE := CTI.seq1 (CTI.region hnd h)
end
end Go.Proofs.Ytjmnnkhdadoehaa

/- Abstract walks: the loop over a function, as a whole. -/
namespace Go.Proofs.Ytjmnnkhdadoehaa
set_option linter.unusedSimpArgs false
set_option linter.unusedVariables false
open Go Go.RowKit Go.Shelf

/-- The record of a loop, and the block of what its rounds put off. -/
structure Book (w W : World) (r : Loop) : Prop where
  rec_ : W.heap[w.heap.size + 1]? = some (.loop r)
  off : W.heap[w.heap.size]? = some (.deferred (some []))
theorem Book.keep {w W W' : World} {r : Loop} (h : Book w W r) (hk : KeepsFrom w.heap.size W W') : Book w W' r := ⟨hk.same _ _ (Nat.le_succ _) h.rec_ rfl, hk.same _ _ (Nat.le_refl _) h.off rfl⟩
theorem Book.set {w W : World} {r r' : Loop} (h : Book w W r) : Book w (W.putObj (w.heap.size + 1) (.loop r')) r' :=
  ⟨World.putObj_heap_same (Array.getElem?_eq_some_iff.1 h.rec_).1, (World.putObj_heap_other (by omega)).trans h.off⟩
section
variable {α : Type} {P : Program} {Q : Exit → Act → World → Prop} {a : Act} {w : World}
/-- A loop over a function: what holds between two rounds (I), behind the assignments of a round (J), where it was left (Ix). -/
theorem range_joint {g : Operand} {ps : Array Tmp} {assign body : Code} {gf : Nat} {lb : Array Value} (hg : a.eval g = .func (.func gf) #[] lb) (eg : ∀ args w, (callFunc gf args).run P w = .ok (.enter gf args) w)
    {encs : α → Array Value} {Kp : World → World → Prop} {Sd Sp : List α → Prop} {M : Nat} (hseq : SeqStopsK Fence.wide 2 P gf lb encs Kp Sd Sp M w)
    (hKt : ∀ {A B C : World}, Kp A B → Kp B C → Kp A C) (hKb : ∀ (W : World) (l : Nat) (o o' : Obj), W.heap[l]? = some o → o.isCells = false → Kp W (W.putObj l o')) (hps : ∀ x, (encs x).size = ps.size)
    (I : List α → World → Prop) (Ix : Code → List α → World → Prop) (J : List α → α → Act → World → Prop) (hI : OwnFrom w.heap.size I) (hIx : ∀ c, OwnFrom w.heap.size (Ix c)) (hJ : ∀ pre x a', OwnFrom w.heap.size (fun (_ : Unit) W => J pre x a' W)) (h0 : I [] w)
    (hassign : ∀ (l : Nat) (pre : List α) (x : α) (W : World), I pre W → assign.wpIn (Fence.wide.inRound l) 1 P (fun e a' W' => e = .normal ∧ KeepsFrom w.heap.size W W' ∧ Kp W W' ∧ J pre x a' W') { tmps := (ps.zip (encs x)).foldl (fun t (p, v) => t.setIfInBounds p v) a.tmps, defers := [] } W)
    (hbody : ∀ (l : Nat) (pre : List α) (x : α) (a' : Act) (W : World), J pre x a' W → pre.length < M → body.wpIn (Fence.wide.inRound l) 1 P (ownPostG w.heap.size Kp I Ix (pre ++ [x]) W) a' W)
    (hdone : ∀ (xs : List α) (W : World), Sd xs → I xs W → W.heap[w.heap.size]? = some (.deferred (some [])) → Q .normal { a with defers := mark w.heap.size :: a.defers } W)
    (hstop : ∀ (c : Code) (pre : List α) (W : World), Sp pre → Ix c pre W → W.heap[w.heap.size]? = some (.deferred (some [])) → c.wpIn Fence.wide 3 P Q { a with defers := mark w.heap.size :: a.defers } W) :
    (Code.rangeFunc g ps assign body).wpIn Fence.wide 3 P Q a w := by
  refine wpIn_rangeFunc fun fn hfn => ?_
  -- the record as it is laid
  let R : LoopState → Option Code → Loop := fun st pe => { state := st, pending := pe, fn, tmps := a.tmps, params := ps, assign, body, defers := w.heap.size }
  let W1 : World := (w.alloc (.deferred (some []))).alloc (.loop (R .ready none))
  have hB1 : Book w W1 (R .ready none) := ⟨by have := World.alloc_heap_new (w.alloc (.deferred (some []))) (.loop (R .ready none)); rwa [World.size_alloc] at this, (Below.heap_alloc _ _ _ (by simp)).trans (World.alloc_heap_new w _)⟩
  have hW1 : w.heap.size ≤ W1.heap.size := by simp [W1]; omega
  have hbel : Below w.heap.size w W1 := (((Below.refl _ w).alloc (Nat.le_refl _) _).alloc (by simp) _)
  refine ⟨w.heap.size + 1, [mark w.heap.size], W1, { target := .fn (.func gf) lb, args := #[.func (.yield (w.heap.size + 1)) #[] #[]] }, W1, gf, #[.func (.yield (w.heap.size + 1)) #[] #[]] ++ lb, W1,
    run_enterLoop_outer _ _ _ _ _, by simp only [resolve, hg]; simp [go_sem], fun _ _ => trivial, by simp [invoke, go_sem, eg], (fun hh => by cases hh), ?_⟩
  have keepB : ∀ {β : Type} {X : β → World → Prop} (r : Loop), OwnFrom w.heap.size X → AbidesFrom W1.heap.size (fun s W => X s W ∧ Book w W r) := fun r hX s A B row hs hgr hr => by
    have hr' : ∀ q, row = some q → w.heap.size ≤ q ∧ ∃ o : Obj, A.heap[q]? = some o ∧ o.isCells = false := fun q e => by
      obtain ⟨h1, o, h2, h3⟩ := hr q e
      exact ⟨Nat.le_trans hW1 h1, o, h2, Obj.not_cells_of_walk h3⟩
    exact ⟨hX s A B row hs.1 hgr hr', (grownBy_keeps hgr (fun q e => (hr q e).2) hs.2.rec_ rfl).trans hs.2.rec_, (grownBy_keeps hgr (fun q e => (hr q e).2) hs.2.off rfl).trans hs.2.off⟩
  refine (hseq (w.heap.size + 1) (fun pre W => I pre W ∧ Book w W (R .ready none)) (fun pre W => ∃ c, Ix c pre W ∧ Book w W (R .done (some c))) W1 hbel (keepB _ hI)
    (fun s A B row ⟨c, hc⟩ hgr hr => ⟨c, keepB (R .done (some c)) (hIx c) s A B row hc hgr hr⟩) ?_ ⟨hI.alloc _ (hI.alloc _ h0), hB1⟩).mono ?_
  · rintro pre x W ⟨hi, hbk⟩ hlen
    refine ⟨fn, _, assign, body, run_yield hbk.rec_ (hps x), roundIn_of_wpIn hfn (wpIn_mono (hassign _ pre x W hi) ?_)⟩
    rintro e a' Wa ⟨rfl, hk1, hp1, hj⟩
    have hbk1 := hbk.keep hk1
    have hbk2 : Book w (Wa.putObj (w.heap.size + 1) (.loop (R .busy none))) (R .busy none) := hbk1.set
    refine ⟨_, run_beginRound hbk1.rec_ rfl, wpIn_mono (hbody _ pre x a' _ ((hJ pre x a').putObj (s := ()) _ hj (Nat.le_succ _) hbk1.rec_ rfl) hlen) ?_⟩
    have hp2 : Kp W (Wa.putObj (w.heap.size + 1) (.loop (R .busy none))) := hKt hp1 (hKb _ _ _ _ hbk1.rec_ rfl)
    have leave : ∀ (c : Code) (W3 : World), KeepsFrom w.heap.size (Wa.putObj (w.heap.size + 1) (.loop (R .busy none))) W3 → Ix c (pre ++ [x]) W3 → ∃ v w', (Instr.endRound (w.heap.size + 1) (some c)).run P W3 = .ok v w' ∧
        ((Ending.returned v = .returned (.bool true) ∧ (I (pre ++ [x]) w' ∧ Book w w' (R .ready none)) ∧ Kp W w') ∨ (Ending.returned v = .returned (.bool false) ∧ ∃ c, Ix c (pre ++ [x]) w' ∧ Book w w' (R .done (some c)))) := fun c W3 hk3 hx3 => by
      have hbk3 := hbk2.keep hk3
      exact ⟨_, _, run_endRound (some c) hbk3.rec_, .inr ⟨rfl, c, (hIx c).putObj _ hx3 (Nat.le_succ _) hbk3.rec_ rfl, hbk3.set⟩⟩
    rintro e a3 W3 hp
    cases e with
    | normal =>
      obtain ⟨hk3, hp3, hi3⟩ := hp
      have hbk3 := hbk2.keep hk3
      exact ⟨_, _, run_endRound none hbk3.rec_, .inl ⟨rfl, ⟨hI.putObj _ hi3 (Nat.le_succ _) hbk3.rec_ rfl, hbk3.set⟩, hKt (hKt hp2 hp3) (hKb _ _ _ _ hbk3.rec_ rfl)⟩⟩
    | ret => exact leave _ W3 hp.1 hp.2
    | exit id => exact leave _ W3 hp.1 hp.2
    | goto t => exact leave _ W3 hp.1 hp.2
    | panic ch => exact hp.elim
    | outgrown => exact hp.elim
  · rintro e W2 ⟨⟨v, rfl⟩, (⟨xs, hS, hi, hbk⟩ | ⟨pre, hSp, c, hx, hbk⟩)⟩
    · exact ⟨none, _, run_endLoop hbk.rec_ (by simp [R]), hdone xs _ hS (hI.putObj _ hi (Nat.le_succ _) hbk.rec_ rfl) ((World.putObj_heap_other (by omega)).trans hbk.off)⟩
    · exact ⟨some c, _, run_endLoop hbk.rec_ (by simp [R]), hstop c pre _ hSp ((hIx c).putObj _ hx (Nat.le_succ _) hbk.rec_ rfl) ((World.putObj_heap_other (by omega)).trans hbk.off)⟩
end

/-! ### Over abstract states -/
def KpK (K : Know) (W W' : World) : Prop := ∀ b o u, K b o = some u → W.cell? ⟨b, o, none⟩ = some u → W'.cell? ⟨b, o, none⟩ = some u
theorem KpK.trans {K : Know} {A B C : World} (h : KpK K A B) (h' : KpK K B C) : KpK K A C := fun b o u hk hc => h' b o u hk (h b o u hk hc)
theorem KpK.turn {K : Know} (W : World) (l : Nat) (o o' : Obj) (h : W.heap[l]? = some o) (hc : o.isCells = false) : KpK K W (W.putObj l o') := fun b i u _ hcell => by
  have hne : b ≠ l := by
    rintro rfl
    simp only [World.cell?, h] at hcell
    cases o <;> simp_all [Obj.isCells]
  simp only [World.cell?, heap_putObj W l o' hne] at hcell ⊢
  exact hcell
/-- No rows of the call's own are spoken of. -/
def St.noRows (S : St) : Prop := ∀ r e k xs, ¬ S.has (.row r e k xs)
theorem own_less {w : World} {base base' e k : Nat} {v : Value} {m : Nat} {cs : List Value} (h : w.ownsRow base e k v m cs) (hb : base' ≤ base) : w.ownsRow base' e k v m cs := by
  refine ⟨h.1, ?_⟩
  rcases h.2 with h | ⟨g, cap, cur, q1, q2, q3⟩
  · exact .inl h
  · exact .inr ⟨g, cap, cur, q1, Nat.le_trans hb q2, q3⟩
section
variable {P : Program} {N : Nat} {K0 : Know} {w0 : Bas} {S S' : St} {K K' : Know} {n n' : Nm} {a a' : Act} {W W' : World}
noncomputable def Bas.at (w0 : Bas) (N : Nat) (W : World) (n : Nm) (S : St) : Bas := ⟨W, foot n S.boxes S.arrs, fun d => if N ≤ d ∧ hasB S.boxes d = true then n.β d else w0.β d, false⟩
theorem Sim.foot_own (hs : Sim N K0 w0 S K n a W) {b : Nat} (h : foot n S.boxes S.arrs b) : w0.isOwn b ∧ ∃ c t f, W.heap[b]? = some (.cells c t f) := by
  rcases h with ⟨d, cs, hm, hn⟩ | ⟨d, A, hm, hn⟩
  · obtain ⟨b', arr, ty, q1, q2, q3, _⟩ := hs.box d cs hm
    rw [hn] at q1; injection q1 with q1; subst q1
    exact ⟨q2, _, _, _, q3⟩
  · obtain ⟨q1, q2, q3⟩ := hs.arr d A hm
    exact ⟨(q3 b hn).1, own_cells q1 b hn⟩
/-- A part of a function taken by itself: it is handed all boxes and rows that there are. -/
theorem Sim.rebase (hs : Sim N K0 w0 S K n a W) (hnr : S.noRows) : Sim N K (w0.at N W n S) S K n a W where
  size := hs.size
  defers := fun h => by cases h
  below := ⟨rfl, rfl, rfl, Nat.le_refl _, fun _ _ _ => rfl⟩
  k0 := Know.le_refl K
  knew := fun _ _ _ h _ => h
  ok := hs.ok
  tmp := hs.tmp
  box := fun d cs hm => by
    obtain ⟨b, arr, ty, q1, _, q3⟩ := hs.box d cs hm
    exact ⟨b, arr, ty, q1, .inr (.inl ⟨d, cs, hm, q1⟩), q3⟩
  boxInj := hs.boxInj
  boxOne := hs.boxOne
  row := fun r e k xs h => absurd h (hnr r e k xs)
  rowInj := fun r e k xs r' e' k' xs' g h => absurd h (hnr r e k xs)
  arr := fun d A hm => by
    obtain ⟨q1, q2, q3⟩ := hs.arr d A hm
    exact ⟨q1, q2, fun g hg => ⟨.inr (.inr ⟨d, A, hm, hg⟩), (q3 g hg).2⟩⟩
  arrInj := hs.arrInj
  arrOne := hs.arrOne
  fix := fun d b hb => by
    simp only [Bas.at] at hb
    split at hb
    · rename_i h; exact ⟨hb, h.1⟩
    · exact hs.fix d b hb
theorem Sim.unbase (ht : w0.top = false) (hs : Sim N K0 w0 S K n a W) (h : Sim N K (w0.at N W n S) S' K' n' a' W') : Sim N K0 w0 S' K' n' a' W' ∧ KeepsOthers W W' ∧ KpK K W W' ∧ K.le K' ∧ ∀ d, N ≤ d → hasB S.boxes d = true → n'.β d = n.β d := by
  have hblk : ∀ b, b < W.heap.size → ¬ foot n S.boxes S.arrs b → W'.heap[b]? = W.heap[b]? := h.below.block
  have hbase : w0.w.heap.size ≤ W.heap.size := hs.base
  have hown : ∀ b, (w0.at N W n S).isOwn b → w0.isOwn b := fun b hb => by
    rcases hb with hb | hb
    · exact .inl (Nat.le_trans hbase hb)
    · exact (hs.foot_own hb).1
  refine ⟨{
    size := h.size
    defers := fun h => by rw [ht] at h; cases h
    below := hs.below.step h.below.os h.below.tape h.below.output h.below.size fun b hb hno => hblk b (Nat.lt_of_lt_of_le hb hbase) (fun hf => by
      rcases (hs.foot_own hf).1 with q | q
      · omega
      · exact hno q)
    k0 := Know.le_trans hs.k0 h.k0
    knew := fun b o u hu hlt => hs.knew b o u (h.knew b o u hu (Nat.lt_of_lt_of_le hlt hbase)) hlt
    ok := h.ok
    tmp := h.tmp
    box := fun d cs hm => by
      obtain ⟨b, arr, ty, q1, q2, q3⟩ := h.box d cs hm
      exact ⟨b, arr, ty, q1, hown b q2, q3⟩
    boxInj := h.boxInj
    boxOne := h.boxOne
    row := fun r e k xs hr => by
      obtain ⟨q1, q2⟩ := h.row r e k xs hr
      exact ⟨own_less q1 hbase, q2⟩
    rowInj := h.rowInj
    arr := fun d A hm => by
      obtain ⟨q1, q2, q3⟩ := h.arr d A hm
      exact ⟨q1, q2, fun g hg => ⟨hown g (q3 g hg).1, (q3 g hg).2⟩⟩
    arrInj := h.arrInj
    arrOne := h.arrOne
    fix := fun d b hb => by
      obtain ⟨q1, q2⟩ := hs.fix d b hb
      refine ⟨(h.fix d b ?_).1, q2⟩
      simp only [Bas.at]
      split
      · exact q1
      · exact hb }, ⟨h.below.size, fun k o hk hc => ?_⟩, fun b o u hk _ => h.ok b o u (h.k0 b o u hk), h.k0, fun d hN hd => ?_⟩
  · rw [hblk k (Array.getElem?_eq_some_iff.1 hk).1 (fun hf => by
      obtain ⟨_, c, t, f, hcc⟩ := hs.foot_own hf
      rw [hk] at hcc; injection hcc with hcc; subst hcc; cases hc)]
    exact hk
  · obtain ⟨cs, hm⟩ := hasB_ex hd
    obtain ⟨b, _, _, q1, _⟩ := hs.box d cs hm
    rw [q1]
    exact (h.fix d b (by simp only [Bas.at]; rw [if_pos ⟨hN, hd⟩]; exact q1)).1
/-- A part of a round, walked by itself. -/
theorem round_walk {l m : Nat} {c : Code} {Q : Exit → St → Prop} (ht : w0.top = false) (hs : Sim N K0 w0 S K n a W) (hnr : S.noRows)
    (h : ∀ K1 (B : Bas), (∀ d, w0.β d = none → (N ≤ d → hasB S.boxes d = false) → B.β d = none) → CTI l P N K1 B c S Q) :
    c.wpIn (Fence.wide.inRound l) m P (fun e a' W' => ∃ K' n' S', Q e S' ∧ Sim N K0 w0 S' K' n' a' W' ∧ KeepsOthers W W' ∧ KpK K W W' ∧ K.le K' ∧ ∀ d, N ≤ d → hasB S.boxes d = true → n'.β d = n.β d) a W := by
  refine wpIn_mono (h K (w0.at N W n S) (fun d h1 h2 => by simp only [Bas.at]; rw [if_neg (fun hh => by rw [h2 hh.1] at hh; exact absurd hh.2 (by simp))]; exact h1) m K n a W (hs.rebase hnr)) ?_
  rintro e a' W' ⟨K', n', S', hq, hs'⟩
  obtain ⟨q1, q2⟩ := hs.unbase ht hs'
  exact ⟨K', n', S', hq, q1, q2⟩
/-- The world turns where no cells are. -/
theorem Sim.turned (hs : Sim N K0 w0 S K n a W) {row : Option Nat} (hg : W.grownBy W' row) (hr : ∀ r, row = some r → w0.w.heap.size ≤ r ∧ ∃ o : Obj, W.heap[r]? = some o ∧ o.isCells = false) (hd : w0.top = true → Marks w0 a W') : Sim N K0 w0 S K n a W' where
  size := hs.size
  defers := hd
  below := hs.below.step hg.os hg.tape hg.output hg.size fun b hb _ => hg.block b (Nat.lt_of_lt_of_le hb hs.below.size) (fun e => by have := (hr b e.symm).1; omega)
  k0 := hs.k0
  knew := hs.knew
  ok := fun b o u hu => cell_kept (hs.ok b o u hu) hg (fun r e => (hr r e).2)
  tmp := hs.tmp
  box := fun d cs hm => by
    obtain ⟨b, arr, ty, q1, q2, q3, q4⟩ := hs.box d cs hm
    exact ⟨b, arr, ty, q1, q2, (grownBy_keeps_cells hg (fun r e => (hr r e).2) q3 rfl).trans q3, q4⟩
  boxInj := hs.boxInj
  boxOne := hs.boxOne
  row := fun r e k xs hrow => by
    obtain ⟨q1, q2⟩ := hs.row r e k xs hrow
    refine ⟨⟨q1.1, ?_⟩, q2⟩
    rcases q1.2 with q | ⟨g, cap, cur, u1, u2, u3, u4⟩
    · exact .inl q
    · exact .inr ⟨g, cap, cur, u1, u2, (grownBy_keeps_cells hg (fun r e => (hr r e).2) u3 rfl).trans u3, u4⟩
  rowInj := hs.rowInj
  arr := fun d A hm => by
    obtain ⟨q1, q2, q3⟩ := hs.arr d A hm
    refine ⟨⟨q1.1, ?_⟩, q2, q3⟩
    rcases q1.2 with q | ⟨g, cap, cur, u1, u2, u3, u4⟩
    · exact .inl q
    · exact .inr ⟨g, cap, cur, u1, u2, (grownBy_keeps_cells hg (fun r e => (hr r e).2) u3 rfl).trans u3, u4⟩
  arrInj := hs.arrInj
  arrOne := hs.arrOne
  fix := hs.fix
end

/-! ### Boxes named anew -/
section
variable {P : Program} {N : Nat} {K0 : Know} {w0 : Bas} {S S' : St} {K K' : Know} {n n' : Nm} {a a' : Act} {w : World} {σ τ : Nat → Nat}
end
end Go.Proofs.Ytjmnnkhdadoehaa

/- Abstract walks: the loop over a function, over abstract states. -/
namespace Go.Proofs.Ytjmnnkhdadoehaa
set_option linter.unusedSimpArgs false
set_option linter.unusedVariables false
open Go Go.RowKit Go.Shelf

/-- What may lie in slots beside such a loop. -/
def AV.okTm (bs : List (Nat × List AV)) : AV → Bool
  | .val _ | .dead | .sl _ _ | .full _ _ | .cptr _ | .clo _ _ | .pr _ => true
  | .ptr d _ => hasB bs d
  | .cloB _ ds => ds.all fun p => hasB bs p.1
  | _ => false
theorem Rep.okTm {K K' : Know} {n n' : Nm} {bs : List (Nat × List AV)} {A : AV} {c : Value} (hok : A.okTm bs = true) (hK : K.le K') (hβ : ∀ d, hasB bs d = true → n'.β d = n.β d) (h : Rep K n A c) : Rep K' n' A c := by
  have h' := h.mono hK
  cases A with
  | val v => exact h'
  | dead => trivial
  | sl k xs => exact h'
  | full k xs => exact h'
  | cptr vs => exact h'
  | clo f cs => exact h'
  | pr p => exact h'
  | ptr d o => obtain ⟨b, h1, h2⟩ := h'; exact ⟨b, by rw [hβ d hok]; exact h1, h2⟩
  | cloB f ds =>
    obtain ⟨ps, e, h1, h2⟩ := h'
    refine ⟨ps, e, h1, fun i p d off hp hd => ?_⟩
    obtain ⟨b, h3, h4⟩ := h2 i p d off hp hd
    exact ⟨b, by rw [hβ d (List.all_eq_true.1 hok _ (List.mem_of_getElem? hd))]; exact h3, h4⟩
  | row => cases hok
  | arow => cases hok
  | aptr => cases hok
  | asub => cases hok
  | tup => cases hok
theorem okTm_row {bs : List (Nat × List AV)} {A : AV} (h : A.okTm bs = true) {r e k : Nat} {xs : Cells} : ¬ (AV.row r e k xs).of A := by
  rintro (rfl | ⟨vs, rfl, hm⟩) <;> cases h
def AV.plainRow : AV → Bool
  | .row _ _ _ _ => false
  | .tup vs => vs.all fun A => !A.isRow
  | _ => true
def St.noRowsB (S : St) : Bool := S.tmps.all (fun p => p.2.plainRow) && S.boxes.all (fun p => p.2.all fun A => !A.isRow)
theorem St.noRows_of {S : St} (h : S.noRowsB = true) : S.noRows := by
  simp only [St.noRowsB, Bool.and_eq_true] at h
  rintro r e k xs (⟨t, ht⟩ | ⟨d, cs, hm, hA⟩)
  · rcases getT_mem S.tmps t with e1 | ⟨s, hm⟩
    · unfold St.get at ht; rw [e1] at ht; rcases ht with ht | ⟨_, ht, _⟩ <;> cases ht
    · have h1 := List.all_eq_true.1 h.1 _ hm
      unfold St.get at ht
      rcases ht with ht | ⟨vs, ht, hv⟩
      · rw [ht] at h1; cases h1
      · rw [ht] at h1; have := List.all_eq_true.1 h1 _ hv; cases this
  · have := List.all_eq_true.1 (List.all_eq_true.1 h.2 _ hm) _ hA; cases this
/-- What a round must leave behind. -/
def roundQ (bs' : List (Nat × List AV)) (ar' : List (Nat × Arr)) : Exit → St → Prop := fun e S => e = .normal ∧ bs'.map (fun p => getB S.boxes p.1) = bs'.map (fun p => some p.2) ∧ ar'.map (fun p => getA S.arrs p.1) = ar'.map (fun p => some p.2)
section
variable {P : Program} {N : Nat} {K0 : Know} {w0 : Bas} {QE : Exit → St → Prop} {α : Type}
/-- Marks that were there ahead of a loop. -/
def Mk (w0 : Bas) (a : Act) (w W : World) : Prop := w0.top = true → ∃ Ds : List Nat, a.defers = Ds.map mark ∧ Ds.Nodup ∧ ∀ D ∈ Ds, w0.w.heap.size ≤ D ∧ D < w.heap.size ∧ W.heap[D]? = some (Obj.deferred (some []))
theorem Mk.keep {a : Act} {w W W' : World} (h : Mk w0 a w W) (hb : ∀ D o, D < w.heap.size → W.heap[D]? = some o → o.isCells = false → W'.heap[D]? = some o) : Mk w0 a w W' := fun ht => by
  obtain ⟨Ds, h1, h2, h3⟩ := h ht
  exact ⟨Ds, h1, h2, fun D hD => ⟨(h3 D hD).1, (h3 D hD).2.1, hb D _ (h3 D hD).2.1 (h3 D hD).2.2 rfl⟩⟩
def Bas.low (w0 : Bas) : Bas := ⟨w0.w, w0.own, w0.β, false⟩
theorem Sim.low {S : St} {K : Know} {n : Nm} {a a' : Act} {w : World} (h : Sim N K0 w0 S K n a w) (ha : a'.tmps = a.tmps) : Sim N K0 w0.low S K n a' w :=
  { h with size := by rw [ha]; exact h.size, defers := fun h => (by cases h), tmp := fun t => by rw [ha]; exact h.tmp t, below := ⟨h.below.os, h.below.tape, h.below.output, h.below.size, h.below.block⟩ }
theorem Sim.high {S : St} {K : Know} {n : Nm} {a a' : Act} {w : World} (h : Sim N K0 w0.low S K n a w) (ha : a'.tmps = a.tmps) (hd : w0.top = true → Marks w0 a' w) : Sim N K0 w0 S K n a' w :=
  { h with size := by rw [ha]; exact h.size, defers := hd, tmp := fun t => by rw [ha]; exact h.tmp t, below := ⟨h.below.os, h.below.tape, h.below.output, h.below.size, h.below.block⟩ }
/-- A loop over a function that gives two values a round, and whose rounds all go on. -/
theorem CT.range {g : Operand} {p1 p2 id : Nat} {os : List Oper} {body : Code} {tm : List (Nat × AV)} (T : List α → List (Nat × List AV)) (TA : List α → List (Nat × Arr)) (e1 e2 : α → Value) (M : Nat) (Sd Sp : List α → Prop) (hp1 : p1 < N) (hp2 : p2 < N)
    (hit : ∀ K n a w, Sim N K0 w0 ⟨tm, T [], TA []⟩ K n a w → ∃ gf lb, a.eval g = .func (.func gf) #[] lb ∧ (∀ args w, (callFunc gf args).run P w = .ok (.enter gf args) w) ∧ SeqStopsK Fence.wide 2 P gf lb (fun x => #[e1 x, e2 x]) (KpK K) Sd Sp M w)
    (htm : tm.all (fun p => p.2.okTm (T [])) = true) (hN : (T []).all (fun p => decide (N ≤ p.1)) = true) (hnames : ∀ pre d, hasB (T pre) d = hasB (T []) d) (hcell : ∀ pre, (T pre).all (fun p => p.2.all fun A => !A.isRow) = true) (hnd : os.all noDefer = true)
    (hround : ∀ K1 (B : Bas) pre x, (∀ d, w0.β d = none → hasB (T []) d = false → B.β d = none) → LT P N K1 B os.toArray os ⟨(p2, .val (e2 x)) :: (p1, .val (e1 x)) :: tm, T pre, TA pre⟩ (fun S1 => S1.noRowsB = true ∧ (T []).all (fun p => hasB S1.boxes p.1) = true ∧
      (pre.length < M → ∀ l K2 (B2 : Bas), (∀ d, w0.β d = none → (N ≤ d → hasB S1.boxes d = false) → B2.β d = none) → CTI l P N K2 B2 body S1 (roundQ (T (pre ++ [x])) (TA (pre ++ [x]))))))
    (hdone : ∀ xs, Sd xs → QE .normal ⟨tm, T xs, TA xs⟩) : CT P N K0 w0 (.rangeFunc g #[p1, p2] (.region id os.toArray false) body) ⟨tm, T [], TA []⟩ QE := by
  intro K n a w hs
  obtain ⟨gf, lb, hg, eg, hseq⟩ := hit K n a w hs
  have hbase : w0.w.heap.size ≤ w.heap.size := hs.base
  have hNT : ∀ d, hasB (T []) d = true → N ≤ d := fun d hd => by
    obtain ⟨cs, hm⟩ := hasB_ex hd
    simpa using List.all_eq_true.1 hN _ hm
  have hmk0 : Mk w0 a w w := fun ht => by
    obtain ⟨Ds, h1, h2, h3⟩ := hs.defers ht
    exact ⟨Ds, h1, h2, fun D hD => ⟨(h3 D hD).1, (Array.getElem?_eq_some_iff.1 (h3 D hD).2).1, (h3 D hD).2⟩⟩
  have hnoT : ∀ pre, (⟨tm, T pre, TA pre⟩ : St).noRows := fun pre r e k xs hr => by
    rcases hr with ⟨t, ht⟩ | ⟨d, cs, hm, hA⟩
    · rcases getT_mem tm t with q | ⟨s, hm⟩
      · have ht' : (AV.row r e k xs).of (getT tm t) := ht
        rw [q] at ht'; rcases ht' with ht' | ⟨_, ht', _⟩ <;> cases ht'
      · exact okTm_row (List.all_eq_true.1 htm _ hm) ht
    · have := List.all_eq_true.1 (List.all_eq_true.1 (hcell pre) _ hm) _ hA; cases this
  let a0 : Act := { a with defers := [] }
  let I : List α → World → Prop := fun pre W => Mk w0 a w W ∧ w.heap.size ≤ W.heap.size ∧ ∃ K' n', Sim N K0 w0.low ⟨tm, T pre, TA pre⟩ K' n' a0 W ∧ K.le K' ∧ ∀ d, hasB (T []) d = true → n'.β d = n.β d
  let J : List α → α → Act → World → Prop := fun pre x a' W => Mk w0 a w W ∧ w.heap.size ≤ W.heap.size ∧ ∃ S1 K' n', Sim N K0 w0.low S1 K' n' a' W ∧ K.le K' ∧ (∀ d, hasB (T []) d = true → n'.β d = n.β d) ∧
    S1.noRowsB = true ∧ (T []).all (fun p => hasB S1.boxes p.1) = true ∧ (pre.length < M → ∀ l K2 (B2 : Bas), (∀ d, w0.β d = none → (N ≤ d → hasB S1.boxes d = false) → B2.β d = none) → CTI l P N K2 B2 body S1 (roundQ (T (pre ++ [x])) (TA (pre ++ [x])))) ∧
    ∀ t, Rep K' n' (getT tm t) (a0.tmps.getD t undef)
  have hmkT : ∀ {W W' : World} {row : Option Nat}, Mk w0 a w W → w.heap.size ≤ W.heap.size → W.grownBy W' row → (∀ r, row = some r → w.heap.size ≤ r ∧ ∃ o : Obj, W.heap[r]? = some o ∧ o.isCells = false) → Mk w0 a w W' := fun hm hsz hgr hr => hm.keep fun D o hD ho _ => by
    rw [hgr.block D (Nat.lt_of_lt_of_le hD hsz) (fun e => by have := (hr D e.symm).1; omega)]; exact ho
  have hlowr : ∀ {W : World} {row : Option Nat}, (∀ r, row = some r → w.heap.size ≤ r ∧ ∃ o : Obj, W.heap[r]? = some o ∧ o.isCells = false) → ∀ r, row = some r → w0.low.w.heap.size ≤ r ∧ ∃ o : Obj, W.heap[r]? = some o ∧ o.isCells = false := fun hr r e => ⟨Nat.le_trans hbase (hr r e).1, (hr r e).2⟩
  have htmT : ∀ {K' n'} , K.le K' → (∀ d, hasB (T []) d = true → n'.β d = n.β d) → ∀ t, Rep K' n' (getT tm t) (a0.tmps.getD t undef) := fun hK hβ t => by
    rcases getT_mem tm t with q | ⟨s, hm⟩
    · rw [q]; trivial
    · exact (hs.tmp t).okTm (List.all_eq_true.1 htm _ hm) hK hβ
  refine (wpIn_wide (n := 3)).1 (range_joint (ps := #[p1, p2]) hg eg (encs := fun x => #[e1 x, e2 x]) (Kp := KpK K) hseq (fun h h' => h.trans h') (fun W l o o' h hc => KpK.turn W l o o' h hc) (fun x => rfl) I (fun _ _ _ => False) J ?_ (fun c s W W' row h => h.elim) ?_ ?_ ?_ ?_ ?_ ?_)
  · -- I abides a turn
    rintro pre W W' row ⟨h1, h2, K', n', h3, h4, h5⟩ hgr hr
    exact ⟨hmkT h1 h2 hgr hr, Nat.le_trans h2 hgr.size, K', n', h3.turned hgr (hlowr hr) (fun h => by cases h), h4, h5⟩
  · -- J abides a turn
    rintro pre x a' _ W W' row ⟨h1, h2, S1, K', n', h3, h4⟩ hgr hr
    exact ⟨hmkT h1 h2 hgr hr, Nat.le_trans h2 hgr.size, S1, K', n', h3.turned hgr (hlowr hr) (fun h => by cases h), h4⟩
  · exact ⟨hmk0, Nat.le_refl _, K, n, hs.low rfl, Know.le_refl K, fun _ _ => rfl⟩
  · -- the assignments of a round
    rintro l pre x W ⟨h1, h2, K', n', h3, h4, h5⟩
    have hput : Sim N K0 w0.low ⟨(p2, .val (e2 x)) :: (p1, .val (e1 x)) :: tm, T pre, TA pre⟩ K' n' ((a0.put (some p1) (e1 x)).put (some p2) (e2 x)) W := (h3.put hp1 (A := .val (e1 x)) rfl (fun r e k xs h => has_val r e k xs h)).put hp2 (A := .val (e2 x)) rfl (fun r e k xs h => has_val r e k xs h)
    have hact : ({ tmps := ((#[p1, p2] : Array Tmp).zip #[e1 x, e2 x]).foldl (fun t (p, v) => t.setIfInBounds p v) a.tmps, defers := [] } : Act) = (a0.put (some p1) (e1 x)).put (some p2) (e2 x) := by simp [Act.put, a0]
    rw [hact]
    have hnr : (⟨(p2, .val (e2 x)) :: (p1, .val (e1 x)) :: tm, T pre, TA pre⟩ : St).noRows := fun r e k xs hr => by
      rcases hr with ⟨t, ht⟩ | hr
      · have ht' : (AV.row r e k xs).of (((⟨tm, T pre, TA pre⟩ : St).put p1 (.val (e1 x))).put p2 (.val (e2 x)) |>.get t) := ht
        rw [St.get_put] at ht'
        split at ht'
        · rcases ht' with ht' | ⟨_, ht', _⟩ <;> cases ht'
        · rw [St.get_put] at ht'
          split at ht'
          · rcases ht' with ht' | ⟨_, ht', _⟩ <;> cases ht'
          · exact hnoT pre r e k xs (.inl ⟨t, ht'⟩)
      · exact hnoT pre r e k xs (.inr hr)
    refine wpIn_mono (round_walk (l := l) (w0 := w0.low) (c := .region id os.toArray false) (Q := fun e S1 => e = .normal ∧ S1.noRowsB = true ∧ (T []).all (fun p => hasB S1.boxes p.1) = true ∧
      (pre.length < M → ∀ l K2 (B2 : Bas), (∀ d, w0.β d = none → (N ≤ d → hasB S1.boxes d = false) → B2.β d = none) → CTI l P N K2 B2 body S1 (roundQ (T (pre ++ [x])) (TA (pre ++ [x]))))) rfl hput hnr (fun K1 B hB => CTI.region hnd (LT.mono (hround K1 B pre x (fun d q1 q2 => hB d q1 (fun _ => by show hasB (T pre) d = false; rw [hnames]; exact q2))) fun S1 h => ⟨rfl, h⟩))) ?_
    rintro e a' W' ⟨K2, n2, S1, ⟨rfl, q1, q2, q3⟩, hs1, hko, hkp, hle, hβ⟩
    have hβ2 : ∀ d, hasB (T []) d = true → n2.β d = n.β d := fun d hd => (hβ d (hNT d hd) (by show hasB (T pre) d = true; rw [hnames]; exact hd)).trans (h5 d hd)
    refine ⟨rfl, hko.from _, fun b o u hk hc => hkp b o u (h4 b o u hk) hc, h1.keep fun D o hD ho hoc => hko.same D o ho hoc, Nat.le_trans h2 hko.size, S1, K2, n2, hs1, Know.le_trans h4 hle, hβ2, q1, q2, q3, htmT (Know.le_trans h4 hle) hβ2⟩
  · -- the body of a round
    rintro l pre x a' W ⟨h1, h2, S1, K', n', h3, h4, h5, h6, h7, h8, h9⟩ hlen
    refine wpIn_mono (round_walk (l := l) (w0 := w0.low) rfl h3 (St.noRows_of h6) (fun K1 B hB => h8 hlen l K1 B hB)) ?_
    rintro e a2 W' ⟨K2, n2, S2, ⟨rfl, r1, r2⟩, hs2, hko, hkp, hle, hβ⟩
    have hβ2 : ∀ d, hasB (T []) d = true → n2.β d = n.β d := fun d hd => by
      obtain ⟨cs, hm⟩ := hasB_ex hd
      exact (hβ d (hNT d hd) (List.all_eq_true.1 h7 _ hm)).trans (h5 d hd)
    have hK2 := Know.le_trans h4 hle
    refine ⟨hko.from _, fun b o u hk hc => hkp b o u (h4 b o u hk) hc, h1.keep fun D o hD ho hoc => hko.same D o ho hoc, Nat.le_trans h2 hko.size, K2, n2, ?_, hK2, hβ2⟩
    have mb : ∀ d cs, (d, cs) ∈ T (pre ++ [x]) → (d, cs) ∈ S2.boxes := fun d cs hm => getB_mem (map_some_mem (g := Prod.snd) r1 _ hm)
    have ma : ∀ d A, (d, A) ∈ TA (pre ++ [x]) → (d, A) ∈ S2.arrs := fun d A hm => getA_mem (map_some_mem (g := Prod.snd) r2 _ hm)
    exact {
      size := hs.size
      defers := fun h => by cases h
      below := hs2.below
      k0 := hs2.k0
      knew := hs2.knew
      ok := hs2.ok
      tmp := htmT hK2 hβ2
      box := fun d cs hm => hs2.box d cs (mb d cs hm)
      boxInj := fun d cs d' cs' b q1 q2 => hs2.boxInj d cs d' cs' b (mb _ _ q1) (mb _ _ q2)
      boxOne := fun d cs cs' q1 q2 => hs2.boxOne d cs cs' (mb _ _ q1) (mb _ _ q2)
      row := fun r e k xs h => absurd h (hnoT _ r e k xs)
      rowInj := fun r e k xs r' e' k' xs' g h => absurd h (hnoT _ r e k xs)
      arr := fun d A hm => by
        obtain ⟨q1, q2, q3⟩ := hs2.arr d A (ma d A hm)
        exact ⟨q1, q2, fun g hg => ⟨(q3 g hg).1, (q3 g hg).2.1, fun d' cs hm' => (q3 g hg).2.2.1 d' cs (mb _ _ hm'), fun r e k xs h => absurd h (hnoT _ r e k xs)⟩⟩
      arrInj := fun d A d' A' g q1 q2 => hs2.arrInj d A d' A' g (ma _ _ q1) (ma _ _ q2)
      arrOne := fun d A A' q1 q2 => hs2.arrOne d A A' (ma _ _ q1) (ma _ _ q2)
      fix := hs2.fix }
  · -- behind it
    rintro xs W hS ⟨h1, h2, K', n', h3, h4, h5⟩ hoff
    refine ⟨K', n', _, hdone xs hS, h3.high rfl fun ht => ?_⟩
    obtain ⟨Ds, q1, q2, q3⟩ := h1 ht
    refine ⟨w.heap.size :: Ds, by simp [q1], List.nodup_cons.2 ⟨fun hm => absurd (q3 _ hm).2.1 (Nat.lt_irrefl _), q2⟩, fun D hD => ?_⟩
    rcases List.mem_cons.1 hD with rfl | hD
    · exact ⟨hbase, hoff⟩
    · exact ⟨(q3 D hD).1, (q3 D hD).2.2⟩
  · rintro c pre W _ h; exact h.elim
end
end Go.Proofs.Ytjmnnkhdadoehaa

/- Abstract walks: calls of closures, slices in boxes. -/
namespace Go.Proofs.Ytjmnnkhdadoehaa
set_option linter.unusedSimpArgs false
set_option linter.unusedVariables false
open Go Go.RowKit Go.Shelf

section
variable {P : Program} {N : Nat} {K0 : Know} {w0 : Bas} {S S' : St} {K K' : Know} {n : Nm} {a : Act} {w w' : World} {Q : St → Prop}
variable {d dO : Option Nat} {ty : TypeId} {pos : String} {aft : Array Edge} {g : Option (Nat × Bool)} {t e : TypeId} {x y : Operand} {tm : List (Nat × AV)} {bs : List (Nat × List AV)} {ar : List (Nat × Arr)} {dn : Nat}
/-! ### Calls of closures -/
theorem call_runD {f : FuncId} {fn : Func} {c : Code} {args : Array Operand} {ats : Array TypeId} {lb : Array Value} (hf : P.funcs[f]? = some fn) (hname : (fn.name == "runtime.NumGoroutine") = false) (hb : fn.body = some c) (hx : a.eval x = .func (.func f) #[] lb) (w : World) :
    (execOp a.eval ⟨d, .call { callee := .value x, args := args, argTypes := ats }, ty, pos, aft, g⟩).run P w = .ok (.enter f ((args.toList.map a.eval).toArray ++ lb)) w := by
  have e1 : execOp a.eval ⟨d, .call { callee := .value x, args := args, argTypes := ats }, ty, pos, aft, g⟩ = callFunc f (args.map a.eval ++ lb) := by
    unfold execOp
    simp [resolve, Deferred.ofValue, invoke, hx]
  have e2 : args.map a.eval ++ lb = (args.toList.map a.eval).toArray ++ lb := by congr 1; apply Array.ext'; simp
  rw [e1, enters_of hf hname hb, e2]
/-! ### Slices in boxes -/
/-- What one cell of a box may take, beside plain values. -/
inductive AV.One : AV → AV → Prop
  | sl {A k xs} (h : A.Sl k xs) : AV.One A (.sl k xs)
  | arow {r : Nat} : AV.One (.arow r) (.arow r)
theorem AV.One.rep {A B : AV} {c : Value} (h : A.One B) (hr : Rep K n A c) (hw : Sim N K0 w0 S K n a w) (hS : ∀ d, A = .arow d → ∃ X, (d, X) ∈ S.arrs) : Rep1 K n B c ∧ c.cells = #[c] ∧ c.oneCell' = true := by
  cases h with
  | sl h => obtain ⟨A', cap, rfl, h1⟩ := h.slice hr; exact ⟨⟨A', cap, rfl, h1⟩, rfl, rfl⟩
  | arow =>
    rename_i d
    obtain ⟨X, hm⟩ := hS d rfl
    obtain ⟨A', cap, h1, _⟩ := own_val (hw.arr d X hm).1
    have hr' : c = n.ρ d := hr
    rw [h1] at hr'
    subst hr'
    exact ⟨h1.symm, rfl, rfl⟩
end
end Go.Proofs.Ytjmnnkhdadoehaa

/- Abstract walks: clear of a part of a row that is written in place. -/
namespace Go.Proofs.Ytjmnnkhdadoehaa
set_option linter.unusedSimpArgs false
set_option linter.unusedVariables false
open Go Go.RowKit Go.Shelf
section
variable {P : Program} {N : Nat} {K0 : Know} {w0 : Bas} {S S' : St} {K K' : Know} {n : Nm} {a : Act} {w w' : World} {Q : St → Prop}
variable {dO : Option Nat} {ty : TypeId} {pos : String} {aft : Array Edge} {g : Option (Nat × Bool)} {t e : TypeId} {x y : Operand} {tm : List (Nat × AV)} {bs : List (Nat × List AV)} {ar : List (Nat × Arr)} {dn : Nat}
/-! ### Rows that are lent to a call which reads them -/
open Classical in
/-- What is known, what the boxes hold just now, and the rows. -/
noncomputable def Know.lent (K : Know) (n : Nm) (S : St) (w : World) : Know := fun b o => match K.boxed n S w b o with
  | some v => some v
  | none => if ∃ d A, (d, A) ∈ S.arrs ∧ (n.ρ d).ownBlock = some b then w.cell? ⟨b, o, none⟩ else none
theorem Know.lent_le {K : Know} {n : Nm} {w : World} : (K.boxed n S w).le (K.lent n S w) := fun b o v h => by unfold Know.lent; rw [h]
theorem Know.lent_ok {K : Know} {n : Nm} {w : World} (h : K.ok w) : (K.lent n S w).ok w := fun b o v hv => by
  unfold Know.lent at hv
  split at hv
  · rename_i u hu; injection hv with hv; subst hv; exact Know.boxed_ok h b o u hu
  · split at hv
    · exact hv
    · cases hv
theorem lent_row (hs : Sim N K0 w0 S K n a w) {d : Nat} {A : Arr} (hA : getA S.arrs d = some A) : Slice (K.lent n S w) A.k A.xs (n.ρ d) := by
  have hm := getA_mem hA
  obtain ⟨q1, q2, q3⟩ := hs.arr d A hm
  refine own_slice q1 (fun gb hg o u hu => ?_) (Arr.ok_len q2) (Arr.ok_one q2)
  have hc := q1.cells hg o u hu
  rw [Addr.add_mid, Nat.zero_add] at hc
  unfold Know.lent
  split
  · rename_i v hv
    have := Know.boxed_ok hs.ok gb o v hv
    rw [hc] at this
    exact this.symm
  · rw [if_pos ⟨d, A, hm, hg⟩]; exact hc
def AV.argL (S : St) : AV → AV
  | .arow d => match getA S.arrs d with
    | some A => .sl A.k A.xs
    | none => .dead
  | A => A.argB S
theorem AV.argL_rep (hs : Sim N K0 w0 S K n a w) {S1 : St} (hB : S.mem = S1.mem) {A : AV} {c : Value} (hr : Rep K n A c) : Rep1 (K.lent n S w) Nm.nil (A.argL S1) c := by
  have key : ∀ {A : AV}, Rep K n A c → Rep1 (K.lent n S w) Nm.nil (A.argB S1) c := fun {A} hr => Rep1.mono (((AV.argB_of S1 A).at (St.mem_boxes hB)).rep hs hr) Know.lent_le
  cases A with
  | arow d =>
    simp only [AV.argL]
    split
    · rename_i A hA
      rw [← St.mem_arrs hB] at hA
      have h := lent_row hs hA
      rw [show c = n.ρ d from hr]
      exact h
    · trivial
  | _ => exact key hr
/-- A call that is lent boxes and rows; plain values come back. -/
theorem OpH.callL {f : FuncId} {fn : Func} {c : Code} {args : Array Operand} {ats : Array TypeId} {As : List AV} {v : Value} (hf : P.funcs[f]? = some fn) (hname : (fn.name == "runtime.NumGoroutine") = false) (hb : fn.body = some c)
    (hargs : (args.toList.map fun x => (S.opv x).argL S) = As) (hg : Good P f As (.val v)) : OpH P N K0 w0 ⟨dO, .call { callee := .value (.func f), args := args, argTypes := ats }, ty, pos, aft, g⟩ S (.val v) := by
  subst hargs
  intro S' K n a w hs hB hop
  refine upon_enter_calls (call_run hf hname hb a w) (hg (K.lent n S' w) w (args.toList.map a.eval) (Know.lent_ok hs.ok) (by simp) fun i A c hA hc => ?_) ?_
  · rw [List.getElem?_map, Option.map_eq_some_iff] at hc hA
    obtain ⟨x, hx, rfl⟩ := hc
    obtain ⟨x', hx', rfl⟩ := hA
    rw [hx] at hx'; injection hx' with hx'; subst hx'
    have h1 := hs.opv x
    rw [hop x (by simp only [Op.operands, Call.operands]; simp; right; simpa using List.mem_of_getElem? hx)] at h1
    exact AV.argL_rep hs hB h1
  · rintro e w' ⟨c, K', rfl, h1, h2, h3, h4, ρ, h5, _⟩
    exact ⟨c, rfl, c, K, rfl, h1, Know.le_refl K, Know.below hs.ok h1, fun _ _ _ h _ => h, h5, fun r e k xs hr => absurd hr (AV.plain_row rfl r e k xs)⟩
end
end Go.Proofs.Ytjmnnkhdadoehaa

/- Abstract walks: drawn regions whose head makes boxes. -/
namespace Go.Proofs.Ytjmnnkhdadoehaa
set_option linter.unusedSimpArgs false
set_option linter.unusedVariables false
open Go Go.RowKit Go.Shelf
section
variable {P : Program} {N : Nat} {K0 : Know} {w0 : Bas} {S : St} {ops : Array Oper}
/-- A box of zeros is made. -/
def AllocOp (P : Program) (o : Oper) (d : Nat) (cs : List AV) : Prop := ∃ (e : TypeId) (z : Value) (ty : TypeId) (pos : String) (aft : Array Edge), o = ⟨some d, .alloc e, ty, pos, aft, none⟩ ∧ ((P.info? e).bind (·.zero)) = some z ∧ z.cells.toList.map AV.val = cs
structure HInvA (al : Nat → Option (Nat × List AV)) (ops : Array Oper) (n : Nat) (S : St) (vs : List AV) (listed : Array Bool) (T : St) : Prop where
  arrs : T.arrs = S.arrs
  got : ∀ j t v, j < n → listed.getD j true = true → dstAt ops j = some t → vs[j]? = some v → T.get t = v
  no : ∀ t, (∀ j, j < n → listed.getD j true = true → dstAt ops j ≠ some t) → T.get t = S.get t
  box1 : ∀ p ∈ S.boxes, p ∈ T.boxes
  box2 : ∀ j p, j < n → listed.getD j true = true → al j = some p → p ∈ T.boxes
  box3 : ∀ p ∈ T.boxes, p ∈ S.boxes ∨ ∃ j, j < n ∧ listed.getD j true = true ∧ al j = some p
  fr : ∀ j d cs, j < n → listed.getD j true = false → al j = some (d, cs) → T.free d = true ∧ T.boxes.all (fun p => !(Nat.beq p.1 d)) = true
/-- The head, in the order of the text: what is made so far stands apart. -/
def HA (P : Program) (N : Nat) (K0 : Know) (w0 : Bas) (ops : Array Oper) : List Oper → St → List (Nat × List AV) → List AV → List (Option (Nat × List AV)) → (List AV → List (Option (Nat × List AV)) → St → Prop) → Prop
  | [], S, nb, vs, al, Q => Q vs al ⟨S.tmps, nb ++ S.boxes, S.arrs⟩
  | o :: l, S, nb, vs, al, Q => (∃ v, HOk P N K0 w0 ops o S v ∧ HA P N K0 w0 ops l (S.putO o.dst v) nb (vs ++ [v]) (al ++ [none]) Q) ∨
      ∃ d cs, AllocOp P o d cs ∧ d < N ∧ HA P N K0 w0 ops l (S.putO o.dst (.ptr d 0)) ((d, cs) :: nb) (vs ++ [.ptr d 0]) (al ++ [some (d, cs)]) Q
theorem HA.elim : ∀ {l : List Oper} {S : St} {nb : List (Nat × List AV)} {vs0 : List AV} {al0 : List (Option (Nat × List AV))} {Q : List AV → List (Option (Nat × List AV)) → St → Prop}, HA P N K0 w0 ops l S nb vs0 al0 Q → ∃ (vs : List AV) (al : List (Option (Nat × List AV))), vs.length = l.length ∧ al.length = l.length ∧
    (∀ (i : Nat) o v q, l[i]? = some o → vs[i]? = some v → al[i]? = some q → (q = none ∧ HOk P N K0 w0 ops o (foldS S (l.take i) (vs.take i)) v) ∨ ∃ d cs, q = some (d, cs) ∧ AllocOp P o d cs ∧ d < N ∧ v = .ptr d 0) ∧
    Q (vs0 ++ vs) (al0 ++ al) ⟨(foldS S l vs).tmps, ((al.filterMap id).reverse ++ nb) ++ S.boxes, S.arrs⟩
  | [], S, nb, vs0, al0, Q, h => ⟨[], [], rfl, rfl, fun i o v q h => by simp at h, by simpa [HA, foldS] using h⟩
  | o :: l, S, nb, vs0, al0, Q, h => by
    have hm : ∀ A, (S.putO o.dst A).boxes = S.boxes ∧ (S.putO o.dst A).arrs = S.arrs := fun A => by cases o.dst <;> exact ⟨rfl, rfl⟩
    rcases h with ⟨v, h1, h2⟩ | ⟨d, cs, h1, hd, h2⟩
    · obtain ⟨vs, al, h3, h4, h5, h6⟩ := HA.elim h2
      refine ⟨v :: vs, none :: al, by simp [h3], by simp [h4], fun i o' v' q ho hv hq => ?_, ?_⟩
      · cases i with
        | zero => simp at ho hv hq; subst ho hv hq; exact .inl ⟨rfl, h1⟩
        | succ i => exact h5 i o' v' q (by simpa using ho) (by simpa using hv) (by simpa using hq)
      · rw [(hm v).1, (hm v).2] at h6
        simpa [foldS] using h6
    · obtain ⟨vs, al, h3, h4, h5, h6⟩ := HA.elim h2
      refine ⟨.ptr d 0 :: vs, some (d, cs) :: al, by simp [h3], by simp [h4], fun i o' v' q ho hv hq => ?_, ?_⟩
      · cases i with
        | zero => simp at ho hv hq; subst ho hv hq; exact .inr ⟨d, cs, rfl, h1, hd, rfl⟩
        | succ i => exact h5 i o' v' q (by simpa using ho) (by simpa using hv) (by simpa using hq)
      · rw [(hm _).1, (hm _).2] at h6
        simpa [foldS] using h6
/-! ### Steps of the head -/
section
variable {l : List Oper} {d : Option Nat} {opn : Op} {ty : TypeId} {pos : String} {aft : Array Edge} {nb : List (Nat × List AV)} {vs : List AV} {al : List (Option (Nat × List AV))} {Q : List AV → List (Option (Nat × List AV)) → St → Prop} {tm : List (Nat × AV)} {bs : List (Nat × List AV)} {ar : List (Nat × Arr)}
theorem HA.val1 {t : Nat} {v : AV} (h : OpH P N K0 w0 ⟨some t, opn, ty, pos, aft, none⟩ ⟨tm, bs, ar⟩ v) (k : HA P N K0 w0 ops l ⟨(t, v) :: tm, bs, ar⟩ nb (vs ++ [v]) (al ++ [none]) Q) : HA P N K0 w0 ops (⟨some t, opn, ty, pos, aft, none⟩ :: l) ⟨tm, bs, ar⟩ nb vs al Q :=
  .inl ⟨v, .inl ⟨rfl, h⟩, k⟩
theorem HA.box {e : TypeId} {t : Nat} {z : Value} {cs : List AV} (hz : ((P.info? e).bind (·.zero)) = some z) (hcs : z.cells.toList.map AV.val = cs) (hd : t < N) (k : HA P N K0 w0 ops l ⟨(t, .ptr t 0) :: tm, bs, ar⟩ ((t, cs) :: nb) (vs ++ [.ptr t 0]) (al ++ [some (t, cs)]) Q) :
    HA P N K0 w0 ops (⟨some t, .alloc e, ty, pos, aft, none⟩ :: l) ⟨tm, bs, ar⟩ nb vs al Q :=
  .inr ⟨t, cs, ⟨e, z, ty, pos, aft, rfl, hz, hcs⟩, hd, k⟩
theorem HA.done (h : Q vs al ⟨tm, nb ++ bs, ar⟩) : HA P N K0 w0 ops [] ⟨tm, bs, ar⟩ nb vs al Q := h
end
end
end Go.Proofs.Ytjmnnkhdadoehaa

/- Abstract walks: jumps back to a label. -/
namespace Go.Proofs.Ytjmnnkhdadoehaa
set_option linter.unusedSimpArgs false
set_option linter.unusedVariables false
open Go Go.RowKit Go.Shelf
section
variable {P : Program} {N : Nat} {K0 : Know} {w0 : Bas} {S : St} {QE : Exit → St → Prop} {α : Type}
open Classical in
end
end Go.Proofs.Ytjmnnkhdadoehaa

/- Abstract walks: drawn regions whose head makes boxes and fills them. -/
namespace Go.Proofs.Ytjmnnkhdadoehaa
set_option linter.unusedSimpArgs false
set_option linter.unusedVariables false
open Go Go.RowKit Go.Shelf
/-- What an operation of the head is. -/
inductive HI
  | val | box (d : Nat) (cs : List AV) | put (d : Nat) (cs : List AV)
section
variable {P : Program} {N : Nat} {K0 : Know} {w0 : Bas} {S : St} {ops : Array Oper}
/-- A box that was made is filled. -/
def PutOp (P : Program) (o : Oper) (S : St) (d : Nat) (cs0 cs1 : List AV) : Prop := ∃ (t : TypeId) (y : Operand) (v : Value) (ty : TypeId) (pos : String) (aft : Array Edge), o = ⟨none, .store t (.tmp d) y, ty, pos, aft, none⟩ ∧ S.opv (.tmp d) = .ptr d 0 ∧ S.opv y = .val v ∧
  (P.info? t).map (·.size) = some v.cells.size ∧ v.cells.all (·.oneCell') = true ∧ v.cells.size = cs0.length ∧ v.cells.toList.map AV.val = cs1
structure HInvS (its : Nat → HI) (ops : Array Oper) (n : Nat) (S : St) (vs : List AV) (listed : Array Bool) (T : St) : Prop where
  arrs : T.arrs = S.arrs
  got : ∀ j t v, j < n → listed.getD j true = true → dstAt ops j = some t → vs[j]? = some v → T.get t = v
  no : ∀ t, (∀ j, j < n → listed.getD j true = true → dstAt ops j ≠ some t) → T.get t = S.get t
  box1 : ∀ p ∈ S.boxes, p ∈ T.boxes
  box3 : ∀ d cs, (d, cs) ∈ T.boxes → (d, cs) ∈ S.boxes ∨ ∃ j cs0, j < n ∧ listed.getD j true = true ∧ its j = .box d cs0
  own0 : ∀ j d cs0, j < n → listed.getD j true = true → its j = .box d cs0 → (∀ i cs1, i < n → listed.getD i true = true → its i ≠ .put d cs1) → (d, cs0) ∈ T.boxes
  own1 : ∀ i d cs1, i < n → listed.getD i true = true → its i = .put d cs1 → (d, cs1) ∈ T.boxes
  fr : ∀ j d cs, j < n → listed.getD j true = false → its j = .box d cs → T.free d = true ∧ T.boxes.all (fun p => !(Nat.beq p.1 d)) = true
def putOf : List HI → Nat → List AV → List AV
  | [], _, c => c
  | .put d' c' :: l, d, c => cond (Nat.beq d' d) c' (putOf l d c)
  | .val :: l, d, c => putOf l d c
  | .box _ _ :: l, d, c => putOf l d c
def HI.fin (its : List HI) : HI → Option (Nat × List AV)
  | .box d cs0 => some (d, putOf its d cs0)
  | _ => none
/-- The boxes that were made, as they stand at the end. -/
def finB (its : List HI) : List (Nat × List AV) := its.filterMap (HI.fin its)
/-- The head, in the order of the text. -/
def HS (P : Program) (N : Nat) (K0 : Know) (w0 : Bas) (ops : Array Oper) : List Oper → St → List AV → List HI → (List AV → List HI → St → Prop) → Prop
  | [], S, vs, its, Q => Q vs its ⟨S.tmps, finB its ++ S.boxes, S.arrs⟩
  | o :: l, S, vs, its, Q => (∃ v, HOk P N K0 w0 ops o S v ∧ HS P N K0 w0 ops l (S.putO o.dst v) (vs ++ [v]) (its ++ [.val]) Q) ∨
      (∃ d cs, AllocOp P o d cs ∧ d < N ∧ HS P N K0 w0 ops l (S.putO o.dst (.ptr d 0)) (vs ++ [.ptr d 0]) (its ++ [.box d cs]) Q) ∨
      ∃ (d : Nat) (cs0 cs1 : List AV) (j : Nat), its[j]? = some (HI.box d cs0) ∧ PutOp P o S d cs0 cs1 ∧ HS P N K0 w0 ops l (S.putO o.dst .dead) (vs ++ [.dead]) (its ++ [.put d cs1]) Q
theorem HS.elim : ∀ {l : List Oper} {S : St} {vs0 : List AV} {its0 : List HI} {Q : List AV → List HI → St → Prop}, HS P N K0 w0 ops l S vs0 its0 Q → ∃ (vs : List AV) (its : List HI), vs.length = l.length ∧ its.length = l.length ∧
    (∀ (i : Nat) o v q, l[i]? = some o → vs[i]? = some v → its[i]? = some q → (q = .val ∧ HOk P N K0 w0 ops o (foldS S (l.take i) (vs.take i)) v) ∨ (∃ d cs, q = .box d cs ∧ AllocOp P o d cs ∧ d < N ∧ v = .ptr d 0) ∨
      ∃ (d : Nat) (cs0 cs1 : List AV) (j : Nat), q = .put d cs1 ∧ j < its0.length + i ∧ (its0 ++ its)[j]? = some (HI.box d cs0) ∧ PutOp P o (foldS S (l.take i) (vs.take i)) d cs0 cs1) ∧
    Q (vs0 ++ vs) (its0 ++ its) ⟨(foldS S l vs).tmps, finB (its0 ++ its) ++ S.boxes, S.arrs⟩
  | [], S, vs0, its0, Q, h => ⟨[], [], rfl, rfl, fun i o v q h => by simp at h, by simpa [HS, foldS] using h⟩
  | o :: l, S, vs0, its0, Q, h => by
    have hm : ∀ A, (S.putO o.dst A).boxes = S.boxes ∧ (S.putO o.dst A).arrs = S.arrs := fun A => by cases o.dst <;> exact ⟨rfl, rfl⟩
    have go : ∀ (v : AV) (q : HI), ((q = .val ∧ HOk P N K0 w0 ops o S v) ∨ (∃ d cs, q = .box d cs ∧ AllocOp P o d cs ∧ d < N ∧ v = .ptr d 0) ∨ ∃ (d : Nat) (cs0 cs1 : List AV) (j : Nat), q = .put d cs1 ∧ its0[j]? = some (HI.box d cs0) ∧ PutOp P o S d cs0 cs1) →
        HS P N K0 w0 ops l (S.putO o.dst v) (vs0 ++ [v]) (its0 ++ [q]) Q → ∃ (vs : List AV) (its : List HI), vs.length = (o :: l).length ∧ its.length = (o :: l).length ∧
        (∀ (i : Nat) o' v q, (o :: l)[i]? = some o' → vs[i]? = some v → its[i]? = some q → (q = .val ∧ HOk P N K0 w0 ops o' (foldS S ((o :: l).take i) (vs.take i)) v) ∨ (∃ d cs, q = .box d cs ∧ AllocOp P o' d cs ∧ d < N ∧ v = .ptr d 0) ∨
          ∃ (d : Nat) (cs0 cs1 : List AV) (j : Nat), q = .put d cs1 ∧ j < its0.length + i ∧ (its0 ++ its)[j]? = some (HI.box d cs0) ∧ PutOp P o' (foldS S ((o :: l).take i) (vs.take i)) d cs0 cs1) ∧
        Q (vs0 ++ vs) (its0 ++ its) ⟨(foldS S (o :: l) vs).tmps, finB (its0 ++ its) ++ S.boxes, S.arrs⟩ := fun v q h1 h2 => by
      obtain ⟨vs, its, h3, h4, h5, h6⟩ := HS.elim h2
      refine ⟨v :: vs, q :: its, by simp [h3], by simp [h4], fun i o' v' q' ho hv hq => ?_, ?_⟩
      · cases i with
        | zero =>
          simp at ho hv hq
          subst ho hv hq
          rcases h1 with h1 | h1 | ⟨d, cs0, cs1, j, e1, e2, e3⟩
          · exact .inl h1
          · exact .inr (.inl h1)
          · refine .inr (.inr ⟨d, cs0, cs1, j, e1, (List.getElem?_eq_some_iff.1 e2).1, ?_, e3⟩)
            rw [List.getElem?_append_left (List.getElem?_eq_some_iff.1 e2).1]; exact e2
        | succ i =>
          rcases h5 i o' v' q' (by simpa using ho) (by simpa using hv) (by simpa using hq) with h | h | ⟨d, cs0, cs1, j, e1, e2, e3, e4⟩
          · exact .inl h
          · exact .inr (.inl h)
          · exact .inr (.inr ⟨d, cs0, cs1, j, e1, by simp at e2; omega, by simpa using e3, e4⟩)
      · rw [(hm v).1, (hm v).2] at h6
        simpa [foldS] using h6
    rcases h with ⟨v, h1, h2⟩ | ⟨d, cs, h1, hd, h2⟩ | ⟨d, cs0, cs1, j, h1, h2, h3⟩
    · exact go v .val (.inl ⟨rfl, h1⟩) h2
    · exact go _ _ (.inr (.inl ⟨d, cs, rfl, h1, hd, rfl⟩)) h2
    · exact go _ _ (.inr (.inr ⟨d, cs0, cs1, j, rfl, h1, h2⟩)) h3
section
variable {l : List Oper} {opn : Op} {ty : TypeId} {pos : String} {aft : Array Edge} {vs : List AV} {its : List HI} {Q : List AV → List HI → St → Prop} {tm : List (Nat × AV)} {bs : List (Nat × List AV)} {ar : List (Nat × Arr)}
theorem HS.val1 {t : Nat} {v : AV} (h : OpH P N K0 w0 ⟨some t, opn, ty, pos, aft, none⟩ ⟨tm, bs, ar⟩ v) (k : HS P N K0 w0 ops l ⟨(t, v) :: tm, bs, ar⟩ (vs ++ [v]) (its ++ [.val]) Q) : HS P N K0 w0 ops (⟨some t, opn, ty, pos, aft, none⟩ :: l) ⟨tm, bs, ar⟩ vs its Q :=
  .inl ⟨v, .inl ⟨rfl, h⟩, k⟩
theorem HS.box {e : TypeId} {t : Nat} {z : Value} {cs : List AV} (hz : ((P.info? e).bind (·.zero)) = some z) (hcs : z.cells.toList.map AV.val = cs) (hd : t < N) (k : HS P N K0 w0 ops l ⟨(t, .ptr t 0) :: tm, bs, ar⟩ (vs ++ [.ptr t 0]) (its ++ [.box t cs]) Q) :
    HS P N K0 w0 ops (⟨some t, .alloc e, ty, pos, aft, none⟩ :: l) ⟨tm, bs, ar⟩ vs its Q :=
  .inr (.inl ⟨t, cs, ⟨e, z, ty, pos, aft, rfl, hz, hcs⟩, hd, k⟩)
theorem HS.put {t : TypeId} {d : Nat} {y : Operand} {v : Value} {cs0 cs1 : List AV} (j : Nat) (hj : its[j]? = some (.box d cs0)) (hx : St.opv ⟨tm, bs, ar⟩ (.tmp d) = .ptr d 0) (hy : St.opv ⟨tm, bs, ar⟩ y = .val v) (hk : (P.info? t).map (·.size) = some v.cells.size) (ho1 : v.cells.all (·.oneCell') = true) (hsz : v.cells.size = cs0.length) (hcs : v.cells.toList.map AV.val = cs1)
    (k : HS P N K0 w0 ops l ⟨tm, bs, ar⟩ (vs ++ [.dead]) (its ++ [.put d cs1]) Q) : HS P N K0 w0 ops (⟨none, .store t (.tmp d) y, ty, pos, aft, none⟩ :: l) ⟨tm, bs, ar⟩ vs its Q :=
  .inr (.inr ⟨d, cs0, cs1, j, hj, ⟨t, y, v, ty, pos, aft, rfl, hx, hy, hk, ho1, hsz, hcs⟩, k⟩)
theorem HS.done (h : Q vs its ⟨tm, finB its ++ bs, ar⟩) : HS P N K0 w0 ops [] ⟨tm, bs, ar⟩ vs its Q := h
end
end
end Go.Proofs.Ytjmnnkhdadoehaa
