/- A table's entries, of any mode. -/
import Derived.Test.YtjmnnkhdadoehaaGreatYBuild
namespace Go.Proofs.YtjmnnkhdadoehaaGreat
set_option linter.unusedSimpArgs false
set_option linter.unusedVariables false
open Go Go.RowKit Go.Shelf
noncomputable def buildX (rs : List Rte) (mode : Int) : List Ent := if 0 ≤ mode ∧ mode ≤ 2 then buildE rs mode else []
theorem buildX_facts {rs : List Rte} (ht : TableR rs) (mode : Int) : (∀ x ∈ buildX rs mode, x.w.ok) ∧ SimpleR (buildX rs mode) ∧ (buildX rs mode).length ≤ rs.length := by
  unfold buildX
  by_cases h : 0 ≤ mode ∧ mode ≤ 2
  · rw [if_pos h]
    obtain ⟨h1, h2, _⟩ := buildE_says ht (a := ⟨0, 0⟩) ok_zero mode
    obtain ⟨l0, l1, l2⟩ := buildE_len ht
    refine ⟨h1, h2, ?_⟩
    have hc : mode = 0 ∨ mode = 1 ∨ mode = 2 := by omega
    rcases hc with rfl | rfl | rfl <;> omega
  · rw [if_neg h]
    exact ⟨fun x hx => (by cases hx), List.Pairwise.nil, Nat.zero_le _⟩
attribute [local irreducible] OpH OpT LT CT HT Good
theorem g_BuildX (rs : List Rte) (ht : TableR rs) (hl : rs.length ≤ 1000) (mode : Int) : Good Tryz.prog 8 [.sl 4 (rs.map encR), .val (.int .i64 mode)] (.sl 6 ((buildX rs mode).map encE)) := by
  unfold buildX
  by_cases h : 0 ≤ mode ∧ mode ≤ 2
  · rw [if_pos h]
    have hc : mode = 0 ∨ mode = 1 ∨ mode = 2 := by omega
    rcases hc with rfl | rfl | rfl
    · exact Good.toSl (g_Build0 rs ht hl)
    · exact Good.toSl (g_Build1 rs ht hl)
    · exact Good.toSl (g_Build2 rs ht hl)
  · rw [if_neg h]
    exact g_BuildN rs mode h
end Go.Proofs.YtjmnnkhdadoehaaGreat
