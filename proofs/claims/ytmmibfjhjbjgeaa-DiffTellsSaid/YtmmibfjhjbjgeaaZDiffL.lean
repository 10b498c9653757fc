/- Abstract contracts and plain facts for the laws of law 11. -/
import Derived.Test.YtmmibfjhjbjgeaaZDiffC
import Derived.Test.YtmmibfjhjbjgeaaZDiffA
import Derived.Test.YtmmibfjhjbjgeaaZOpen
namespace Go.Proofs.Ytmmibfjhjbjgeaa
set_option linter.unusedSimpArgs false
set_option linter.unusedVariables false
open Go Go.RowKit Go.Shelf
theorem g_same_eq (xs : List Ent) (hx : xs.length ≤ 65536) : Good Try.prog 16 [.sl 6 (xs.map encE), .sl 6 (xs.map encE)] (.val (.bool true)) := by
  have h := g_same xs xs hx hx
  rwa [show decide (xs = xs) = true from by simp] at h
theorem g_few_t (xs ys : List Ent) (hx : xs.length ≤ 20) (hy : ys.length ≤ 20) : Good Try.prog 9 [.sl 6 (xs.map encE), .sl 6 (ys.map encE)] (.val (.bool true)) := by
  have h := g_few xs ys (by omega) (by omega)
  rwa [decide_eq_true ⟨hx, hy⟩] at h
theorem g_few_f (xs ys : List Ent) (hx : xs.length ≤ 9223372036854775807) (hy : ys.length ≤ 9223372036854775807) (hn : ¬ (xs.length ≤ 20 ∧ ys.length ≤ 20)) : Good Try.prog 9 [.sl 6 (xs.map encE), .sl 6 (ys.map encE)] (.val (.bool false)) := by
  have h := g_few xs ys hx hy
  rwa [decide_eq_false hn] at h
theorem doStep_length (s : Stp) (xs : List Ent) : (doStep s xs).length ≤ xs.length + 1 := by
  unfold doStep
  have := doAll_length s xs
  rw [List.length_append]
  split <;> simp only [List.length_cons, List.length_nil] <;> omega
theorem doSteps_take (ss : List Stp) (a : List Ent) {k : Nat} (hk : k < ss.length) : doSteps (ss.take (k + 1)) a = doStep ss[k] (doSteps (ss.take k) a) := by
  rw [List.take_succ_eq_append_getElem hk, doSteps_append]; rfl
theorem doSteps_length (ss : List Stp) (a : List Ent) : (doSteps ss a).length ≤ a.length + ss.length := by
  induction ss generalizing a with
  | nil => simp [doSteps]
  | cons s ss ih =>
    have h1 := ih (doStep s a)
    have h2 := doStep_length s a
    show (doSteps ss (doStep s a)).length ≤ _
    simp only [List.length_cons]; omega
/-! ### How many steps there are of a kind -/
theorem nodup_sub_length : ∀ {u v : List Ent}, u.Nodup → (∀ x ∈ u, x ∈ v) → u.length ≤ v.length
  | [], _, _, _ => Nat.zero_le _
  | x :: u, v, h, hs => by
    have h' := List.nodup_cons.1 h
    have hx := hs x List.mem_cons_self
    have h1 := nodup_sub_length (u := u) (v := v.erase x) h'.2 fun y hy => (List.mem_erase_of_ne (fun e => h'.1 (by rw [← e]; exact hy))).2 (hs y (List.mem_cons_of_mem _ hy))
    rw [List.length_erase_of_mem hx] at h1
    have := List.length_pos_of_mem hx
    simp only [List.length_cons]; omega
/-- Each of the one is alike one of the other. -/
theorem alike_length {u v : List Ent} (hu : NoAlike u) (h : ∀ x ∈ u, ∃ y ∈ v, eAlike x y = true) : u.length ≤ v.length := by
  let f : Ent → Ent := fun x => (v.find? fun y => eAlike x y).getD x
  have hf : ∀ x ∈ u, f x ∈ v ∧ eAlike x (f x) = true := fun x hx => by
    cases hc : v.find? (fun y => eAlike x y) with
    | none =>
      obtain ⟨y, hy, ha⟩ := h x hx
      have := List.find?_eq_none.1 hc y hy
      exact absurd ha this
    | some y =>
      have e : f x = y := by simp [f, hc]
      rw [e]
      exact ⟨List.mem_of_find?_eq_some hc, List.find?_some hc⟩
  have hnd : (u.map f).Nodup := List.pairwise_map.2 ((List.Pairwise.and_mem.1 hu).imp fun {x y} ⟨hx, hy, hxy⟩ e => by
    have h1 := (hf x hx).2
    have h2 := (hf y hy).2
    rw [e, alike_comm] at h1
    have h3 := alike_trans h2 h1
    rw [alike_comm, hxy] at h3
    cases h3)
  have := nodup_sub_length hnd (v := v) fun z hz => by
    obtain ⟨x, hx, rfl⟩ := List.mem_map.1 hz
    exact (hf x hx).1
  simpa using this
theorem cnt_append (j : Int) (s t : List Stp) : cnt j (s ++ t) = cnt j s + cnt j t := by unfold cnt; rw [List.filter_append, List.length_append]
theorem cnt_flat (j : Int) (f : Ent → List Stp) (p : Ent → Bool) (l : List Ent) (h : ∀ x ∈ l, cnt j (f x) = if p x = true then 1 else 0) : cnt j (l.flatMap f) = (l.filter p).length := by
  induction l with
  | nil => rfl
  | cons x l ih =>
    rw [List.flatMap_cons, cnt_append, ih (fun y hy => h y (List.mem_cons_of_mem _ hy)), h x List.mem_cons_self]
    cases hp : p x with
    | true => rw [List.filter_cons_of_pos hp]; simp; omega
    | false => rw [List.filter_cons_of_neg (by simp [hp])]; simp
def isNew (a : List Ent) (x : Ent) : Bool := !a.any fun y => eAlike x y
def isSet (a : List Ent) (x : Ent) : Bool := a.any fun y => eAlike x y && !decide (y.act = x.act)
theorem isNew_iff {a : List Ent} {x : Ent} : isNew a x = true ↔ ∀ y ∈ a, eAlike x y = false := by
  unfold isNew; simp
theorem isSet_iff {a : List Ent} {x : Ent} : isSet a x = true ↔ ∃ y ∈ a, eAlike x y = true ∧ ¬ y.act = x.act := by
  unfold isSet; simp
theorem add_cnt {a : List Ent} (ha : NoAlike a) (x : Ent) : cnt 0 (addStep a x) = (if isNew a x = true then 1 else 0) ∧ cnt 1 (addStep a x) = (if isSet a x = true then 1 else 0) ∧ cnt 2 (addStep a x) = 0 := by
  rcases alike_cases a x with h | ⟨y, hy, h⟩
  · rw [addStep_none h, if_pos (isNew_iff.2 h), if_neg (fun hc => by obtain ⟨y, hy, h1, _⟩ := isSet_iff.1 hc; rw [h y hy] at h1; cases h1)]
    exact ⟨rfl, rfl, rfl⟩
  · have hnn : ¬ isNew a x = true := fun hc => by rw [isNew_iff.1 hc y hy] at h; cases h
    rw [addStep_some ha hy h, if_neg hnn]
    by_cases e : y.act = x.act
    · rw [if_pos e, if_neg (fun hc => by
        obtain ⟨z, hz, h1, h2⟩ := isSet_iff.1 hc
        have := ha.eq hz hy (alike_trans (by rw [alike_comm]; exact h1) h)
        subst this; exact h2 e)]
      exact ⟨rfl, rfl, rfl⟩
    · rw [if_neg e, if_pos (isSet_iff.2 ⟨y, hy, h, e⟩)]
      exact ⟨rfl, rfl, rfl⟩
theorem drop_cnt (b : List Ent) (x : Ent) : cnt 0 (dropStep b x) = 0 ∧ cnt 1 (dropStep b x) = 0 ∧ cnt 2 (dropStep b x) = (if isNew b x = true then 1 else 0) := by
  rcases alike_cases b x with h | ⟨y, hy, h⟩
  · rw [dropStep_none h, if_pos (isNew_iff.2 h)]; exact ⟨rfl, rfl, rfl⟩
  · rw [dropStep_some hy h, if_neg (fun hc => by rw [isNew_iff.1 hc y hy] at h; cases h)]; exact ⟨rfl, rfl, rfl⟩
theorem flat_zero (j : Int) (f : Ent → List Stp) (l : List Ent) (h : ∀ x, cnt j (f x) = 0) : cnt j (l.flatMap f) = 0 := by
  rw [cnt_flat j f (fun _ => false) l (fun x _ => by rw [h]; rfl)]; simp
theorem cnt_steps (old new : List Ent) : cnt 0 (stepsOf old new) = ((once new).filter (isNew (once old))).length ∧ cnt 1 (stepsOf old new) = ((once new).filter (isSet (once old))).length ∧ cnt 2 (stepsOf old new) = ((once old).filter (isNew (once new))).length := by
  have ha := once_noAlike old
  unfold stepsOf
  simp only [cnt_append]
  refine ⟨?_, ?_, ?_⟩
  · rw [cnt_flat 0 _ (isNew (once old)) _ (fun x _ => (add_cnt ha x).1), flat_zero 0 _ _ (fun x => (drop_cnt _ x).1), Nat.add_zero]
    exact ((sortE_perm _).filter _).length_eq
  · rw [cnt_flat 1 _ (isSet (once old)) _ (fun x _ => (add_cnt ha x).2.1), flat_zero 1 _ _ (fun x => (drop_cnt _ x).2.1), Nat.add_zero]
    exact ((sortE_perm _).filter _).length_eq
  · rw [flat_zero 2 _ _ (fun x => (add_cnt ha x).2.2), Nat.zero_add, cnt_flat 2 _ (isNew (once new)) _ (fun x _ => (drop_cnt _ x).2.2)]
    exact (((List.reverse_perm _).trans (sortE_perm _)).filter _).length_eq
theorem set_le {a b : List Ent} (hb : NoAlike b) : (b.filter (isSet a)).length ≤ (a.filter (isSet b)).length := by
  refine alike_length (hb.filter _) fun x hx => ?_
  obtain ⟨h1, h2⟩ := List.mem_filter.1 hx
  obtain ⟨y, hy, h3, h4⟩ := isSet_iff.1 h2
  exact ⟨y, List.mem_filter.2 ⟨hy, isSet_iff.2 ⟨x, h1, by rw [alike_comm]; exact h3, fun e => h4 e.symm⟩⟩, h3⟩
theorem cnt_back (old new : List Ent) : cnt 0 (stepsOf old new) = cnt 2 (stepsOf new old) ∧ cnt 2 (stepsOf old new) = cnt 0 (stepsOf new old) ∧ cnt 1 (stepsOf old new) = cnt 1 (stepsOf new old) := by
  obtain ⟨a0, a1, a2⟩ := cnt_steps old new
  obtain ⟨b0, b1, b2⟩ := cnt_steps new old
  rw [a0, a1, a2, b0, b1, b2]
  exact ⟨rfl, rfl, Nat.le_antisymm (set_le (once_noAlike new)) (set_le (once_noAlike old))⟩
end Go.Proofs.Ytmmibfjhjbjgeaa
