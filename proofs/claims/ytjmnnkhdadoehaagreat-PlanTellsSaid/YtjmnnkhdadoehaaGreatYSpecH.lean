/- Sorted rows of entries, in plain Lean. -/
import Derived.Test.YtjmnnkhdadoehaaGreatYSpec
import Derived.Shelf.SlSortCmp.WholeK
namespace Go.Proofs.YtjmnnkhdadoehaaGreat
set_option linter.unusedSimpArgs false
set_option linter.unusedVariables false
open Go Go.Sort
def eLe (x y : Ent) : Bool := decide (eCmp x y ≤ 0)
def sortE (xs : List Ent) : List Ent := xs.mergeSort eLe
theorem eLe_trans {x y z : Ent} (h1 : eLe x y = true) (h2 : eLe y z = true) : eLe x z = true := by
  unfold eLe at *
  simp only [decide_eq_true_eq] at *
  exact eCmp_trans h1 h2
theorem eLe_total (x y : Ent) : (eLe x y || eLe y x) = true := by
  unfold eLe
  have := eCmp_neg x y
  simp only [Bool.or_eq_true, decide_eq_true_eq]
  omega
theorem eLe_anti {x y : Ent} (h1 : eLe x y = true) (h2 : eLe y x = true) : x = y := by
  unfold eLe at *
  simp only [decide_eq_true_eq] at *
  have := eCmp_neg x y
  exact eCmp_zero.1 (by omega)
theorem ltOf_le (x y : Ent) : (!(ltOf eCmp y x)) = eLe x y := by
  unfold ltOf eLe
  rw [← decide_not]
  congr 1
  have := eCmp_neg x y
  rw [eq_iff_iff]
  omega
theorem swoE : SWO (ltOf eCmp) where
  irrefl x := by unfold ltOf; have : eCmp x x = 0 := eCmp_zero.2 rfl; simp [this]
  trans x y z h1 h2 := by
    unfold ltOf at *
    simp only [decide_eq_true_eq] at *
    have a := eCmp_trans (show eCmp x y ≤ 0 by omega) (show eCmp y z ≤ 0 by omega)
    rcases Int.lt_or_eq_of_le a with h | h
    · exact h
    · have := eCmp_zero.1 h
      subst this
      have := eCmp_neg x y
      omega
  ntrans x y z h1 h2 := by
    unfold ltOf at *
    simp only [decide_eq_false_iff_not] at *
    have a := eCmp_neg x y
    have b := eCmp_neg y z
    have c := eCmp_trans (show eCmp z y ≤ 0 by omega) (show eCmp y x ≤ 0 by omega)
    have d := eCmp_neg x z
    omega
theorem antiE (x y : Ent) (h1 : ltOf eCmp x y = false) (h2 : ltOf eCmp y x = false) : x = y := by
  refine eLe_anti (x := x) (y := y) ?_ ?_
  · rw [← ltOf_le, h2]; rfl
  · rw [← ltOf_le, h1]; rfl
theorem sortE_lt (xs : List Ent) : (xs.mergeSort fun x y => !(ltOf eCmp y x)) = sortE xs := by
  unfold sortE
  congr 1
  funext x y
  exact ltOf_le x y
theorem sortE_perm (xs : List Ent) : (sortE xs).Perm xs := List.mergeSort_perm _ _
theorem sortE_pairwise (xs : List Ent) : (sortE xs).Pairwise (fun x y => eLe x y = true) := List.pairwise_mergeSort (le := eLe) (fun x y z h1 h2 => eLe_trans (x := x) (y := y) (z := z) h1 h2) (fun x y => eLe_total x y) xs
theorem sortE_length (xs : List Ent) : (sortE xs).length = xs.length := (sortE_perm xs).length_eq
theorem sortE_unique {xs ys : List Ent} (h : ys.Perm xs) (hs : ys.Pairwise (fun x y => eLe x y = true)) : ys = sortE xs :=
  List.Perm.eq_of_pairwise (le := fun x y => eLe x y = true) (fun _ _ _ _ h1 h2 => eLe_anti h1 h2) hs (sortE_pairwise xs) (h.trans (sortE_perm xs).symm)
theorem sortE_of_perm {xs ys : List Ent} (h : ys.Perm xs) : sortE ys = sortE xs := sortE_unique ((sortE_perm ys).trans h) (sortE_pairwise ys)
def place (ys : List Ent) (x : Ent) : Nat := (ys.takeWhile fun y => eLe y x).length
def ins (ys : List Ent) (x : Ent) : List Ent := ys.take (place ys x) ++ x :: ys.drop (place ys x)
def rSort (xs : List Ent) : List Ent := xs.foldl ins []
theorem place_spec (ys : List Ent) (x : Ent) (n : Nat) (hn : n ≤ ys.length) (h1 : ∀ (i : Nat) (y : Ent), i < n → ys[i]? = some y → eLe y x = true) (h2 : ∀ y, ys[n]? = some y → eLe y x = false) : place ys x = n := by
  unfold place
  induction ys generalizing n with
  | nil => simp at hn; simp [hn]
  | cons y ys ih =>
    cases n with
    | zero => simp [h2 y rfl]
    | succ n =>
      rw [List.takeWhile_cons, h1 0 y (by omega) rfl]
      simp only [if_true, List.length_cons, Nat.add_right_cancel_iff]
      exact ih n (by simpa using hn) (fun i z hi hz => h1 (i + 1) z (by omega) (by simpa using hz)) (fun z hz => h2 z (by simpa using hz))
theorem ins_perm (ys : List Ent) (x : Ent) : (ins ys x).Perm (x :: ys) := by
  unfold ins
  refine List.perm_middle.trans ?_
  rw [List.take_append_drop]
theorem ins_pairwise (ys : List Ent) (x : Ent) (h : ys.Pairwise (fun x y => eLe x y = true)) : (ins ys x).Pairwise (fun x y => eLe x y = true) := by
  induction ys with
  | nil => simp [ins, place]
  | cons y ys ih =>
    unfold ins place
    rw [List.pairwise_cons] at h
    cases hy : eLe y x with
    | false =>
      rw [List.takeWhile_cons, hy]
      simp only [Bool.false_eq_true, if_false, List.length_nil, List.take_zero, List.drop_zero, List.nil_append, List.pairwise_cons]
      have hxy : eLe x y = true := by
        have := eLe_total x y
        rw [hy] at this
        simpa using this
      refine ⟨fun z hz => ?_, h⟩
      rcases List.mem_cons.1 hz with rfl | hz
      · exact hxy
      · exact eLe_trans hxy (h.1 z hz)
    | true =>
      rw [List.takeWhile_cons, hy]
      simp only [if_true, List.length_cons, List.take_succ_cons, List.drop_succ_cons, List.cons_append]
      have e : ys.take (ys.takeWhile fun y => eLe y x).length ++ x :: ys.drop (ys.takeWhile fun y => eLe y x).length = ins ys x := rfl
      rw [e, List.pairwise_cons]
      refine ⟨fun z hz => ?_, ih h.2⟩
      rcases List.mem_cons.1 ((ins_perm ys x).subset hz) with rfl | hz
      · exact hy
      · exact h.1 z hz
theorem rSort_to : ∀ (xs ys : List Ent), ys.Pairwise (fun x y => eLe x y = true) → (xs.foldl ins ys).Pairwise (fun x y => eLe x y = true) ∧ (xs.foldl ins ys).Perm (xs ++ ys)
  | [], ys, h => ⟨h, List.Perm.refl _⟩
  | x :: xs, ys, h => by
    obtain ⟨h1, h2⟩ := rSort_to xs (ins ys x) (ins_pairwise ys x h)
    refine ⟨h1, h2.trans ?_⟩
    refine ((ins_perm ys x).append_left xs).trans ?_
    exact List.perm_middle
theorem rSort_sortE (xs : List Ent) : rSort xs = sortE xs := by
  obtain ⟨h1, h2⟩ := rSort_to xs [] List.Pairwise.nil
  rw [List.append_nil] at h2
  exact sortE_unique h2 h1
theorem rSort_take (xs : List Ent) {k : Nat} (hk : k < xs.length) : rSort (xs.take (k + 1)) = ins (rSort (xs.take k)) xs[k] := by
  unfold rSort
  rw [List.take_succ_eq_append_getElem hk, List.foldl_append]; rfl
theorem rSort_length (xs : List Ent) : (rSort xs).length = xs.length := by rw [rSort_sortE, sortE_length]
theorem sortE_mem {xs : List Ent} {x : Ent} : x ∈ sortE xs ↔ x ∈ xs := (sortE_perm xs).mem_iff
end Go.Proofs.YtjmnnkhdadoehaaGreat
