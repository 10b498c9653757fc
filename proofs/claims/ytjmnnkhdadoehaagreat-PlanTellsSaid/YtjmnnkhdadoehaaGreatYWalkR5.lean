/- What single calls do: the reference's order of a row. -/
import Derived.Test.YtjmnnkhdadoehaaGreatYWalkR
import Derived.Test.YtjmnnkhdadoehaaGreatYPureA
namespace Go.Proofs.YtjmnnkhdadoehaaGreat
set_option linter.unusedSimpArgs false
set_option linter.unusedVariables false
open Go.RowKit
attribute [local irreducible] rMatch rMeet
theorem ordTo_iff (xs : List Ent) : ∀ n, n ≤ xs.length → (ordTo xs n = true ↔ ∀ k, k < n → ∀ i, i < k → eAbove (nth xs k) (nth xs i) = false)
  | 0, _ => by simp [ordTo]
  | n + 1, hn => by
    have ih := ordTo_iff xs n (by omega)
    simp only [ordTo, Bool.and_eq_true, ih, Bool.not_eq_true', Bool.eq_false_iff, ne_eq, List.any_eq_true, not_exists, not_and]
    constructor
    · rintro ⟨h1, h2⟩ k hk i hi
      by_cases e : k = n
      · subst e
        refine h2 (nth xs i) ?_
        rw [nth_at xs (by omega)]
        exact List.mem_take_iff_getElem.2 ⟨i, by omega, rfl⟩
      · exact h1 k (by omega) i hi
    · intro h
      refine ⟨fun k hk i hi => h k (by omega) i hi, fun y hy => ?_⟩
      obtain ⟨i, hi, rfl⟩ := List.mem_take_iff_getElem.1 hy
      have := h n (by omega) i (by omega)
      rwa [nth_at xs (by omega : i < xs.length)] at this
attribute [local go_sem high] eql_25 neq_25 eql_44 neq_62 eql_48 eql_50
attribute [local go_sem] eqg_25 eqg_62 eqg_48 eqg_50 cell_grew frozen_grew size_grew grew_grew lt_addk Instr.field asAgg lt_gi_k
end Go.Proofs.YtjmnnkhdadoehaaGreat
