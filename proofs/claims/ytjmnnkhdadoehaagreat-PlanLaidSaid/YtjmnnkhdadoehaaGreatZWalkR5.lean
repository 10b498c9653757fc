/- What single calls do: the reference's order of a row. -/
import Derived.Test.YtjmnnkhdadoehaaGreatZWalkR
import Derived.Test.YtjmnnkhdadoehaaGreatZPureA
namespace Go.Proofs.YtjmnnkhdadoehaaGreat
set_option linter.unusedSimpArgs false
set_option linter.unusedVariables false
open Go.RowKit
attribute [local irreducible] rMatch rMeet
theorem ordTo_iff (xs : List Ent) : ∀ n, n ≤ xs.length → (ordTo xs n = true ↔ ∀ k, k < n → ∀ i, i < k → eAbove (nth xs k) (nth xs i) = false)
  | 0, _ => by simp [ordTo]
  | n + 1, hn => by
    have ih := ordTo_iff xs n (by omega)
    simp only [ordTo, Bool.and_eq_true, ih, Bool.not_eq_true', Bool.eq_false_iff, ne_eq, List.any_eq_true, not_exists, not_and]
    constructor
    · rintro ⟨h1, h2⟩ k hk i hi
      by_cases e : k = n
      · subst e
        refine h2 (nth xs i) ?_
        rw [nth_at xs (by omega)]
        exact List.mem_take_iff_getElem.2 ⟨i, by omega, rfl⟩
      · exact h1 k (by omega) i hi
    · intro h
      refine ⟨fun k hk i hi => h k (by omega) i hi, fun y hy => ?_⟩
      obtain ⟨i, hi, rfl⟩ := List.mem_take_iff_getElem.1 hy
      have := h n (by omega) i (by omega)
      rwa [nth_at xs (by omega : i < xs.length)] at this
attribute [local go_sem high] eql_25 neq_25 eql_24 neq_24 eql_44 neq_44 eql_60 neq_60 eql_46 neq_46 eql_62 neq_62 eql_65 neq_65 eql_116 neq_116 eql_67 neq_67 eql_118 neq_118 eql_48 neq_48 eql_102 neq_102 eql_50 neq_50 eql_82 neq_82
attribute [local go_sem ↓ high] yielded_undef
attribute [local go_sem] eqg_25 eqg_24 eqg_44 eqg_60 eqg_46 eqg_62 eqg_65 eqg_116 eqg_67 eqg_118 eqg_48 eqg_102 eqg_50 eqg_82 cell_grew frozen_grew size_grew grew_grew drewN_grew lt_addk size_setW Instr.field asAgg lt_gi_k lt_gi_kh lt_gi_k_k lt_gi_k_kh lt_gi_k_k_k lt_gi_k_k_kh lt_gi_i_k lt_gi_i_kh lt_gi_i_k_k lt_gi_i_k_kh lt_gi_i_k_k_k lt_gi_i_k_k_kh lt_gi_i_i_k lt_gi_i_i_kh lt_gi_i_i_k_k lt_gi_i_i_k_kh lt_gi_i_i_k_k_k lt_gi_i_i_k_k_kh lt_gi_i_i_i_k lt_gi_i_i_i_kh lt_gi_i_i_i_k_k lt_gi_i_i_i_k_kh lt_gi_i_i_i_k_k_k lt_gi_i_i_i_k_k_kh lt_gi_i_i_i_i_k lt_gi_i_i_i_i_kh lt_gi_i_i_i_i_k_k lt_gi_i_i_i_i_k_kh lt_gi_i_i_i_i_k_k_k lt_gi_i_i_i_i_k_k_kh lt_gi_i_i_i_i_i_k lt_gi_i_i_i_i_i_kh lt_gi_i_i_i_i_i_k_k lt_gi_i_i_i_i_i_k_kh lt_gi_i_i_i_i_i_k_k_k lt_gi_i_i_i_i_i_k_k_kh lt_gi_i_i_i_i_i_i_k lt_gi_i_i_i_i_i_i_kh lt_gi_i_i_i_i_i_i_k_k lt_gi_i_i_i_i_i_i_k_kh lt_gi_i_i_i_i_i_i_k_k_k lt_gi_i_i_i_i_i_i_k_k_kh lt_gi_i_i_i_i_i_i_i_k lt_gi_i_i_i_i_i_i_i_kh lt_gi_i_i_i_i_i_i_i_k_k lt_gi_i_i_i_i_i_i_i_k_kh lt_gi_i_i_i_i_i_i_i_k_k_k lt_gi_i_i_i_i_i_i_i_k_k_kh lt_gi_k_i lt_gi_k_ih lt_gi_k_i_k lt_gi_k_i_kh lt_gi_k_k_i lt_gi_k_k_ih lt_gi_k_k_i_k lt_gi_k_k_i_kh lt_gi_k_i_i lt_gi_k_i_ih lt_gi_k_i_i_k lt_gi_k_i_i_kh lt_gi_k_k_i_i lt_gi_k_k_i_ih lt_gi_k_k_i_i_k lt_gi_k_k_i_i_kh lt_gi_k_i_i_i lt_gi_k_i_i_ih lt_gi_k_i_i_i_k lt_gi_k_i_i_i_kh lt_gi_k_k_i_i_i lt_gi_k_k_i_i_ih lt_gi_k_k_i_i_i_k lt_gi_k_k_i_i_i_kh lt_gi_i_k_i lt_gi_i_k_ih lt_gi_i_k_i_k lt_gi_i_k_i_kh lt_gi_i_k_k_i lt_gi_i_k_k_ih lt_gi_i_k_k_i_k lt_gi_i_k_k_i_kh lt_gi_i_k_i_i lt_gi_i_k_i_ih lt_gi_i_k_i_i_k lt_gi_i_k_i_i_kh lt_gi_i_k_k_i_i lt_gi_i_k_k_i_ih lt_gi_i_k_k_i_i_k lt_gi_i_k_k_i_i_kh lt_gi_i_k_i_i_i lt_gi_i_k_i_i_ih lt_gi_i_k_i_i_i_k lt_gi_i_k_i_i_i_kh lt_gi_i_k_k_i_i_i lt_gi_i_k_k_i_i_ih lt_gi_i_k_k_i_i_i_k lt_gi_i_k_k_i_i_i_kh lt_gi_i_i_k_i lt_gi_i_i_k_ih lt_gi_i_i_k_i_k lt_gi_i_i_k_i_kh lt_gi_i_i_k_k_i lt_gi_i_i_k_k_ih lt_gi_i_i_k_k_i_k lt_gi_i_i_k_k_i_kh lt_gi_i_i_k_i_i lt_gi_i_i_k_i_ih lt_gi_i_i_k_i_i_k lt_gi_i_i_k_i_i_kh lt_gi_i_i_k_k_i_i lt_gi_i_i_k_k_i_ih lt_gi_i_i_k_k_i_i_k lt_gi_i_i_k_k_i_i_kh lt_gi_i_i_k_i_i_i lt_gi_i_i_k_i_i_ih lt_gi_i_i_k_i_i_i_k lt_gi_i_i_k_i_i_i_kh lt_gi_i_i_k_k_i_i_i lt_gi_i_i_k_k_i_i_ih lt_gi_i_i_k_k_i_i_i_k lt_gi_i_i_k_k_i_i_i_kh lt_gi_i_i_i_k_i lt_gi_i_i_i_k_ih lt_gi_i_i_i_k_i_k lt_gi_i_i_i_k_i_kh lt_gi_i_i_i_k_k_i lt_gi_i_i_i_k_k_ih lt_gi_i_i_i_k_k_i_k lt_gi_i_i_i_k_k_i_kh lt_gi_i_i_i_k_i_i lt_gi_i_i_i_k_i_ih lt_gi_i_i_i_k_i_i_k lt_gi_i_i_i_k_i_i_kh lt_gi_i_i_i_k_k_i_i lt_gi_i_i_i_k_k_i_ih lt_gi_i_i_i_k_k_i_i_k lt_gi_i_i_i_k_k_i_i_kh lt_gi_i_i_i_k_i_i_i lt_gi_i_i_i_k_i_i_ih lt_gi_i_i_i_k_i_i_i_k lt_gi_i_i_i_k_i_i_i_kh lt_gi_i_i_i_k_k_i_i_i lt_gi_i_i_i_k_k_i_i_ih lt_gi_i_i_i_k_k_i_i_i_k lt_gi_i_i_i_k_k_i_i_i_kh lt_gi_i_i_i_i_k_i lt_gi_i_i_i_i_k_ih lt_gi_i_i_i_i_k_i_k lt_gi_i_i_i_i_k_i_kh lt_gi_i_i_i_i_k_k_i lt_gi_i_i_i_i_k_k_ih lt_gi_i_i_i_i_k_k_i_k lt_gi_i_i_i_i_k_k_i_kh lt_gi_i_i_i_i_k_i_i lt_gi_i_i_i_i_k_i_ih lt_gi_i_i_i_i_k_i_i_k lt_gi_i_i_i_i_k_i_i_kh lt_gi_i_i_i_i_k_k_i_i lt_gi_i_i_i_i_k_k_i_ih lt_gi_i_i_i_i_k_k_i_i_k lt_gi_i_i_i_i_k_k_i_i_kh lt_gi_i_i_i_i_k_i_i_i lt_gi_i_i_i_i_k_i_i_ih lt_gi_i_i_i_i_k_i_i_i_k lt_gi_i_i_i_i_k_i_i_i_kh lt_gi_i_i_i_i_k_k_i_i_i lt_gi_i_i_i_i_k_k_i_i_ih lt_gi_i_i_i_i_k_k_i_i_i_k lt_gi_i_i_i_i_k_k_i_i_i_kh
end Go.Proofs.YtjmnnkhdadoehaaGreat
