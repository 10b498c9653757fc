/- Sorted rows of entries, in plain Lean. -/
import Derived.Test.YtjmnnkhdadoehaaGreatZSpec
import Derived.Shelf.SlSortCmp.WholeK
namespace Go.Proofs.YtjmnnkhdadoehaaGreat
set_option linter.unusedSimpArgs false
set_option linter.unusedVariables false
open Go Go.Sort
def eLe (x y : Ent) : Bool := decide (eCmp x y ≤ 0)
def sortE (xs : List Ent) : List Ent := xs.mergeSort eLe
theorem eLe_anti {x y : Ent} (h1 : eLe x y = true) (h2 : eLe y x = true) : x = y := by
  unfold eLe at *
  simp only [decide_eq_true_eq] at *
  have := eCmp_neg x y
  exact eCmp_zero.1 (by omega)
theorem ltOf_le (x y : Ent) : (!(ltOf eCmp y x)) = eLe x y := by
  unfold ltOf eLe
  rw [← decide_not]
  congr 1
  have := eCmp_neg x y
  rw [eq_iff_iff]
  omega
theorem swoE : SWO (ltOf eCmp) where
  irrefl x := by unfold ltOf; have : eCmp x x = 0 := eCmp_zero.2 rfl; simp [this]
  trans x y z h1 h2 := by
    unfold ltOf at *
    simp only [decide_eq_true_eq] at *
    have a := eCmp_trans (show eCmp x y ≤ 0 by omega) (show eCmp y z ≤ 0 by omega)
    rcases Int.lt_or_eq_of_le a with h | h
    · exact h
    · have := eCmp_zero.1 h
      subst this
      have := eCmp_neg x y
      omega
  ntrans x y z h1 h2 := by
    unfold ltOf at *
    simp only [decide_eq_false_iff_not] at *
    have a := eCmp_neg x y
    have b := eCmp_neg y z
    have c := eCmp_trans (show eCmp z y ≤ 0 by omega) (show eCmp y x ≤ 0 by omega)
    have d := eCmp_neg x z
    omega
theorem antiE (x y : Ent) (h1 : ltOf eCmp x y = false) (h2 : ltOf eCmp y x = false) : x = y := by
  refine eLe_anti (x := x) (y := y) ?_ ?_
  · rw [← ltOf_le, h2]; rfl
  · rw [← ltOf_le, h1]; rfl
theorem sortE_lt (xs : List Ent) : (xs.mergeSort fun x y => !(ltOf eCmp y x)) = sortE xs := by
  unfold sortE
  congr 1
  funext x y
  exact ltOf_le x y
theorem sortE_perm (xs : List Ent) : (sortE xs).Perm xs := List.mergeSort_perm _ _
theorem sortE_length (xs : List Ent) : (sortE xs).length = xs.length := (sortE_perm xs).length_eq
theorem sortE_mem {xs : List Ent} {x : Ent} : x ∈ sortE xs ↔ x ∈ xs := (sortE_perm xs).mem_iff
end Go.Proofs.YtjmnnkhdadoehaaGreat
