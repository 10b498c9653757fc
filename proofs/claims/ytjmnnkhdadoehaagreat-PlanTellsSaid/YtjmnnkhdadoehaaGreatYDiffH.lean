/- Abstract contracts: diff.Count, diff.Steps. -/
import Derived.Test.YtjmnnkhdadoehaaGreatYWalkM
import Derived.Test.YtjmnnkhdadoehaaGreatYBack
namespace Go.Proofs.YtjmnnkhdadoehaaGreat
set_option linter.unusedSimpArgs false
set_option linter.unusedVariables false
open Go Go.RowKit Go.Shelf
def addStep (a : List Ent) (x : Ent) : List Stp := if firstAt (fun y => eAlike x y) a < 0 then [⟨0, x⟩] else if (nth a (firstAt (fun y => eAlike x y) a).toNat).act = x.act then [] else [⟨1, x⟩]
def dropStep (b : List Ent) (x : Ent) : List Stp := if firstAt (fun y => eAlike x y) b < 0 then [⟨2, x⟩] else []
def stepsOf (old new : List Ent) : List Stp := (sortE (once new)).flatMap (addStep (once old)) ++ (sortE (once old)).reverse.flatMap (dropStep (once new))
theorem addStep_length (a : List Ent) (x : Ent) : (addStep a x).length ≤ 1 := by unfold addStep; split <;> (try split) <;> simp
theorem dropStep_length (a : List Ent) (x : Ent) : (dropStep a x).length ≤ 1 := by unfold dropStep; split <;> simp
theorem flat_le {α β : Type} (f : α → List β) (h : ∀ x, (f x).length ≤ 1) (xs : List α) : (xs.flatMap f).length ≤ xs.length := by
  induction xs with
  | nil => simp
  | cons x xs ih => have := h x; simp only [List.flatMap_cons, List.length_append, List.length_cons]; omega
theorem flat_succ {α β : Type} {f : α → List β} {xs : List α} {k : Nat} (hk : k < xs.length) : (xs.take (k + 1)).flatMap f = (xs.take k).flatMap f ++ f xs[k] := by
  rw [List.take_succ_eq_append_getElem hk, List.flatMap_append]; simp
attribute [local irreducible] OpH OpT LT CT HT Good GoodO CTI
end Go.Proofs.YtjmnnkhdadoehaaGreat

/- Steps, in plain Lean. -/
namespace Go.Proofs.YtjmnnkhdadoehaaGreat
set_option linter.unusedSimpArgs false
set_option linter.unusedVariables false
open Go
def NoAlike (l : List Ent) : Prop := l.Pairwise fun x y => eAlike x y = false
theorem alike_false_comm {x y : Ent} (h : eAlike x y = false) : eAlike y x = false := by rw [alike_comm]; exact h
theorem alike_act {x y : Ent} (h : eAlike x y = true) (ha : x.act = y.act) : x = y := by
  unfold eAlike same at h
  simp only [Bool.and_eq_true, decide_eq_true_eq, beq_iff_eq] at h
  cases x; cases y
  simp only at h ha
  rw [h.1, h.2, ha]
theorem NoAlike.eq {l : List Ent} (h : NoAlike l) {x y : Ent} (hx : x ∈ l) (hy : y ∈ l) (ha : eAlike x y = true) : x = y := by
  refine Classical.byContradiction fun hne => ?_
  have key : ∀ {l : List Ent}, NoAlike l → x ∈ l → y ∈ l → False := by
    intro l
    induction l with
    | nil => intro _ hx; cases hx
    | cons z l ih =>
      intro h hx hy
      have h' := List.pairwise_cons.1 h
      rcases List.mem_cons.1 hx with rfl | hx <;> rcases List.mem_cons.1 hy with rfl | hy
      · exact hne rfl
      · rw [h'.1 y hy] at ha; cases ha
      · rename_i hx2
        rw [alike_comm, h'.1 x hx2] at ha; cases ha
      · exact ih h'.2 hx hy
  exact key h hx hy
theorem NoAlike.nodup {l : List Ent} (h : NoAlike l) : l.Nodup := h.imp fun hxy e => by
  subst e; rw [alike_refl] at hxy; cases hxy
theorem NoAlike.perm {l l' : List Ent} (h : NoAlike l) (hp : l'.Perm l) : NoAlike l' := (hp.pairwise_iff fun hxy => alike_false_comm hxy).2 h
theorem NoAlike.snoc {l : List Ent} (h : NoAlike l) {x : Ent} (hx : ∀ y ∈ l, eAlike y x = false) : NoAlike (l ++ [x]) := by
  refine List.pairwise_append.2 ⟨h, List.pairwise_singleton _ _, fun y hy z hz => ?_⟩
  rw [List.mem_singleton.1 hz]; exact hx y hy
theorem once_noAlike (xs : List Ent) : NoAlike (once xs) := by
  have key : ∀ k, k ≤ xs.length → NoAlike (onceTo xs k) := by
    intro k
    induction k with
    | zero => intro _; exact List.Pairwise.nil
    | succ k ih =>
      intro hk
      have hlt : k < xs.length := hk
      by_cases hf : firstAt (fun y => eAlike xs[k] y) (onceTo xs k) < 0
      · rw [onceTo_add hlt hf]
        exact (ih (by omega)).snoc fun y hy => alike_false_comm ((firstAt_neg _ _).1 hf y hy)
      · rw [onceTo_keep hlt hf]; exact ih (by omega)
  exact key _ (Nat.le_refl _)
theorem once_sub {xs : List Ent} {y : Ent} (h : y ∈ once xs) : y ∈ xs := by
  have := (onceTo_take xs xs.length (Nat.le_refl _)).1 y h
  rwa [List.take_of_length_le (Nat.le_refl _)] at this
theorem once_self {xs : List Ent} (h : NoAlike xs) : once xs = xs := by
  have key : ∀ k, k ≤ xs.length → onceTo xs k = xs.take k := by
    intro k
    induction k with
    | zero => intro _; simp [onceTo]
    | succ k ih =>
      intro hk
      have hlt : k < xs.length := hk
      have e := ih (by omega)
      rw [onceTo_add hlt, e, ← List.take_succ_eq_append_getElem hlt]
      rw [firstAt_neg, e]
      intro y hy
      have h1 := List.pairwise_append.1 (show (xs.take k ++ xs.drop k).Pairwise _ by rw [List.take_append_drop]; exact h)
      have h2 : xs[k] ∈ xs.drop k := by
        rw [List.drop_eq_getElem_cons hlt]; exact List.mem_cons_self
      exact alike_false_comm (h1.2.2 y hy _ h2)
  have := key _ (Nat.le_refl _)
  unfold once
  rw [this, List.take_of_length_le (Nat.le_refl _)]
/-! ### The steps that there are -/
theorem addStep_none {a : List Ent} {x : Ent} (h : ∀ y ∈ a, eAlike x y = false) : addStep a x = [⟨0, x⟩] := by
  unfold addStep; rw [if_pos ((firstAt_neg _ _).2 h)]
theorem addStep_some {a : List Ent} {x y : Ent} (hn : NoAlike a) (hy : y ∈ a) (h : eAlike x y = true) : addStep a x = if y.act = x.act then [] else [⟨1, x⟩] := by
  have hf : ¬ firstAt (fun y => eAlike x y) a < 0 := fun hc => by rw [(firstAt_neg _ _).1 hc y hy] at h; cases h
  have hge := firstAt_ge (fun y => eAlike x y) a
  obtain ⟨i, hi⟩ : ∃ i : Nat, firstAt (fun y => eAlike x y) a = (i : Int) := ⟨(firstAt (fun y => eAlike x y) a).toNat, by omega⟩
  obtain ⟨hil, h1, _⟩ := firstAt_found hi
  have e : a[i] = y := hn.eq (List.getElem_mem hil) hy (alike_trans (by rw [alike_comm]; exact h1) h)
  unfold addStep
  rw [if_neg hf, hi, Int.toNat_natCast, nth_at a hil, e]
theorem dropStep_none {b : List Ent} {x : Ent} (h : ∀ y ∈ b, eAlike x y = false) : dropStep b x = [⟨2, x⟩] := by
  unfold dropStep; rw [if_pos ((firstAt_neg _ _).2 h)]
theorem dropStep_some {b : List Ent} {x y : Ent} (hy : y ∈ b) (h : eAlike x y = true) : dropStep b x = [] := by
  unfold dropStep; rw [if_neg fun hc => by rw [(firstAt_neg _ _).1 hc y hy] at h; cases h]
theorem alike_cases (a : List Ent) (x : Ent) : (∀ y ∈ a, eAlike x y = false) ∨ ∃ y ∈ a, eAlike x y = true := by
  by_cases h : ∃ y ∈ a, eAlike x y = true
  · exact .inr h
  · exact .inl fun y hy => by
      cases hq : eAlike x y with
      | false => rfl
      | true => exact absurd ⟨y, hy, hq⟩ h
theorem steps_kind {old new : List Ent} {s : Stp} (h : s ∈ stepsOf old new) : 0 ≤ s.kind ∧ s.kind ≤ 2 := by
  unfold stepsOf at h
  rcases List.mem_append.1 h with h | h
  · obtain ⟨x, _, h⟩ := List.mem_flatMap.1 h
    unfold addStep at h
    split at h
    · rw [List.mem_singleton.1 h]; exact ⟨by simp, by simp⟩
    · split at h
      · cases h
      · rw [List.mem_singleton.1 h]; exact ⟨by simp, by simp⟩
  · obtain ⟨x, _, h⟩ := List.mem_flatMap.1 h
    unfold dropStep at h
    split at h
    · rw [List.mem_singleton.1 h]; exact ⟨by simp, by simp⟩
    · cases h
theorem steps_length (old new : List Ent) : (stepsOf old new).length ≤ new.length + old.length := by
  unfold stepsOf
  have h1 := flat_le _ (addStep_length (once old)) (sortE (once new))
  have h2 := flat_le _ (dropStep_length (once new)) (sortE (once old)).reverse
  have := sortE_length (once new)
  have := sortE_length (once old)
  have := once_length new
  have := once_length old
  rw [List.length_append]
  simp only [List.length_reverse] at h2
  omega
/-! ### A row behind a step -/
def doSteps (ss : List Stp) (l : List Ent) : List Ent := ss.foldl (fun l s => doStep s l) l
theorem doSteps_append (s t : List Stp) (l : List Ent) : doSteps (s ++ t) l = doSteps t (doSteps s l) := List.foldl_append
theorem do_add (x : Ent) (l : List Ent) : doStep ⟨0, x⟩ l = l ++ [x] := by
  unfold doStep; rw [if_pos rfl, do_keepAll (by simp) (by simp)]
theorem do_set (x : Ent) (l : List Ent) : doStep ⟨1, x⟩ l = l.map fun y => if eAlike y x = true then x else y := by
  unfold doStep
  rw [if_neg (by simp), List.append_nil]
  induction l with
  | nil => rfl
  | cons y l ih =>
    rw [List.flatMap_cons, ih, List.map_cons]
    cases ha : eAlike y x with
    | true => rw [doOne_set rfl ha]; rfl
    | false => rw [doOne_keep (by simp [ha]) (by simp [ha])]; rfl
theorem do_del (x : Ent) (l : List Ent) : doStep ⟨2, x⟩ l = l.filter fun y => !eAlike y x := do_drop rfl l
structure Adds (a p l : List Ent) : Prop where
  no : NoAlike l
  mem : ∀ e, e ∈ l ↔ e ∈ p ∨ (e ∈ a ∧ ∀ x ∈ p, eAlike e x = false)
theorem Adds.start {a : List Ent} (h : NoAlike a) : Adds a [] a := ⟨h, fun e => by simp⟩
theorem Adds.step {a p l : List Ent} (h : Adds a p l) (ha : NoAlike a) {x : Ent} (hx : ∀ z ∈ p, eAlike z x = false) : Adds a (p ++ [x]) (doSteps (addStep a x) l) := by
  rcases alike_cases a x with hc | ⟨y, hy, hc⟩
  · rw [addStep_none hc]
    show Adds a (p ++ [x]) (doStep ⟨0, x⟩ l)
    rw [do_add]
    refine ⟨h.no.snoc fun z hz => ?_, fun e => ?_⟩
    · rcases (h.mem z).1 hz with hz | ⟨hz, _⟩
      · exact hx z hz
      · exact alike_false_comm (hc z hz)
    · simp only [List.mem_append, List.mem_singleton, h.mem]
      constructor
      · rintro ((h1 | ⟨h1, h2⟩) | rfl)
        · exact .inl (.inl h1)
        · exact .inr ⟨h1, fun z hz => by
            rcases hz with hz | rfl
            · exact h2 z hz
            · exact alike_false_comm (hc e h1)⟩
        · exact .inl (.inr rfl)
      · rintro ((h1 | rfl) | ⟨h1, h2⟩)
        · exact .inl (.inl h1)
        · exact .inr rfl
        · exact .inl (.inr ⟨h1, fun z hz => h2 z (.inl hz)⟩)
  · have hyl : y ∈ l := (h.mem y).2 (.inr ⟨hy, fun z hz => by
      cases hq : eAlike y z with
      | false => rfl
      | true => have := alike_trans hc hq; rw [alike_comm, hx z hz] at this; cases this⟩)
    rw [addStep_some ha hy hc]
    split
    · rename_i hact
      have e1 : y = x := alike_act (by rw [alike_comm]; exact hc) hact
      subst e1
      refine ⟨h.no, fun e => ?_⟩
      show e ∈ l ↔ _
      rw [h.mem]
      simp only [List.mem_append, List.mem_singleton]
      constructor
      · rintro (h1 | ⟨h1, h2⟩)
        · exact .inl (.inl h1)
        · cases hq : eAlike e y with
          | true => exact .inl (.inr (ha.eq h1 hy hq))
          | false => exact .inr ⟨h1, fun z hz => by
              rcases hz with hz | rfl
              · exact h2 z hz
              · exact hq⟩
      · rintro ((h1 | rfl) | ⟨h1, h2⟩)
        · exact .inl h1
        · exact (h.mem _).1 hyl
        · exact .inr ⟨h1, fun z hz => h2 z (.inl hz)⟩
    · show Adds a (p ++ [x]) (doStep ⟨1, x⟩ l)
      rw [do_set]
      have hno : NoAlike (l.map fun y => if eAlike y x = true then x else y) := by
        refine List.pairwise_map.2 (h.no.imp fun {u v} huv => ?_)
        cases hu : eAlike u x with
        | true =>
          cases hv : eAlike v x with
          | true => rw [alike_trans hu (by rw [alike_comm]; exact hv)] at huv; cases huv
          | false => simp only [if_true, Bool.false_eq_true, if_false]; exact alike_false_comm hv
        | false =>
          cases hv : eAlike v x with
          | true => simpa using hu
          | false => simpa using huv
      refine ⟨hno, fun e => ?_⟩
      simp only [List.mem_append, List.mem_singleton, List.mem_map]
      constructor
      · rintro ⟨u, hu, rfl⟩
        split
        · exact .inl (.inr rfl)
        · rename_i hux
          have hux : eAlike u x = false := by simpa using hux
          rcases (h.mem u).1 hu with h1 | ⟨h1, h2⟩
          · exact .inl (.inl h1)
          · exact .inr ⟨h1, fun z hz => by
              rcases hz with hz | rfl
              · exact h2 z hz
              · exact hux⟩
      · rintro ((h1 | rfl) | ⟨h1, h2⟩)
        · exact ⟨e, (h.mem e).2 (.inl h1), by rw [if_neg (by rw [hx e h1]; simp)]⟩
        · exact ⟨y, hyl, by rw [if_pos (by rw [alike_comm]; exact hc)]⟩
        · exact ⟨e, (h.mem e).2 (.inr ⟨h1, fun z hz => h2 z (.inl hz)⟩), by rw [if_neg (by rw [h2 x (.inr rfl)]; simp)]⟩
structure Drops (a b q l : List Ent) : Prop where
  no : NoAlike l
  mem : ∀ e, e ∈ l ↔ e ∈ b ∨ (e ∈ a ∧ (∀ x ∈ b, eAlike e x = false) ∧ e ∉ q)
theorem Drops.start {a b b' l : List Ent} (h : Adds a b' l) (hp : b'.Perm b) : Drops a b [] l := ⟨h.no, fun e => by
  rw [h.mem, hp.mem_iff]
  simp only [List.not_mem_nil, not_false_eq_true, and_true]
  constructor <;> rintro (h1 | ⟨h1, h2⟩)
  · exact .inl h1
  · exact .inr ⟨h1, fun x hx => h2 x (hp.mem_iff.2 hx)⟩
  · exact .inl h1
  · exact .inr ⟨h1, fun x hx => h2 x (hp.mem_iff.1 hx)⟩⟩
theorem Drops.step {a b q l : List Ent} (h : Drops a b q l) (ha : NoAlike a) {x : Ent} (hx : x ∈ a) : Drops a b (q ++ [x]) (doSteps (dropStep b x) l) := by
  rcases alike_cases b x with hc | ⟨y, hy, hc⟩
  · rw [dropStep_none hc]
    show Drops a b (q ++ [x]) (doStep ⟨2, x⟩ l)
    rw [do_del]
    refine ⟨h.no.filter _, fun e => ?_⟩
    simp only [List.mem_filter, List.mem_append, List.mem_singleton, h.mem, Bool.not_eq_true', not_or]
    constructor
    · rintro ⟨h1 | ⟨h1, h2, h3⟩, h4⟩
      · exact .inl h1
      · exact .inr ⟨h1, h2, h3, fun e1 => by subst e1; rw [alike_refl] at h4; cases h4⟩
    · rintro (h1 | ⟨h1, h2, h3, h4⟩)
      · exact ⟨.inl h1, alike_false_comm (hc e h1)⟩
      · refine ⟨.inr ⟨h1, h2, h3⟩, ?_⟩
        cases hq : eAlike e x with
        | false => rfl
        | true => exact absurd (ha.eq h1 hx hq) h4
  · rw [dropStep_some hy hc]
    refine ⟨h.no, fun e => ?_⟩
    show e ∈ l ↔ _
    rw [h.mem]
    simp only [List.mem_append, List.mem_singleton, not_or]
    constructor
    · rintro (h1 | ⟨h1, h2, h3⟩)
      · exact .inl h1
      · exact .inr ⟨h1, h2, h3, fun e1 => by subst e1; rw [h2 y hy] at hc; cases hc⟩
    · rintro (h1 | ⟨h1, h2, h3, _⟩)
      · exact .inl h1
      · exact .inr ⟨h1, h2, h3⟩
theorem adds_all {a sb : List Ent} (ha : NoAlike a) (hb : NoAlike sb) : ∀ k, k ≤ sb.length → Adds a (sb.take k) (doSteps ((sb.take k).flatMap (addStep a)) a)
  | 0, _ => by simpa [doSteps] using Adds.start ha
  | k + 1, hk => by
    have hlt : k < sb.length := hk
    rw [flat_succ hlt, doSteps_append, List.take_succ_eq_append_getElem hlt]
    refine (adds_all ha hb k (by omega)).step ha fun z hz => ?_
    have h1 := List.pairwise_append.1 (show (sb.take k ++ sb.drop k).Pairwise _ by rw [List.take_append_drop]; exact hb)
    exact h1.2.2 z hz _ (by rw [List.drop_eq_getElem_cons hlt]; exact List.mem_cons_self)
theorem drops_all {a b sb l sa : List Ent} (ha : NoAlike a) (h : Adds a sb l) (hp : sb.Perm b) (hs : ∀ x ∈ sa, x ∈ a) : ∀ k, k ≤ sa.length → Drops a b (sa.take k) (doSteps ((sa.take k).flatMap (dropStep b)) l)
  | 0, _ => by simpa [doSteps] using Drops.start h hp
  | k + 1, hk => by
    have hlt : k < sa.length := hk
    rw [flat_succ hlt, doSteps_append, List.take_succ_eq_append_getElem hlt]
    exact (drops_all ha h hp hs k (by omega)).step ha (hs _ (List.getElem_mem hlt))
theorem steps_perm (old new : List Ent) : (doSteps (stepsOf old new) (once old)).Perm (once new) := by
  unfold stepsOf
  rw [doSteps_append]
  have ha := once_noAlike old
  have hb := once_noAlike new
  have h1 := adds_all ha (hb.perm (sortE_perm _)) (sortE (once new)).length (Nat.le_refl _)
  rw [List.take_of_length_le (Nat.le_refl _)] at h1
  have h2 := drops_all ha h1 (sortE_perm _) (sa := (sortE (once old)).reverse) (fun x hx => (sortE_perm _).mem_iff.1 (List.mem_reverse.1 hx)) _ (Nat.le_refl _)
  rw [List.take_of_length_le (Nat.le_refl _)] at h2
  refine (List.perm_ext_iff_of_nodup h2.no.nodup hb.nodup).2 fun e => ?_
  rw [h2.mem]
  constructor
  · rintro (h | ⟨h, _, h3⟩)
    · exact h
    · exact absurd (List.mem_reverse.2 ((sortE_perm _).mem_iff.2 h)) h3
  · exact .inl
end Go.Proofs.YtjmnnkhdadoehaaGreat
