/- ref05.Tell, ref04.Meet, ref10.Simple. -/
import Derived.Test.YtnklfbeiagkhiaaYLawTells
import Derived.Test.YtnklfbeiagkhiaaYWalkC
import Derived.Test.YtnklfbeiagkhiaaYPlan
import Derived.Test.YtnklfbeiagkhiaaYGoods
import Derived.Test.YtnklfbeiagkhiaaYAbs8
namespace Go.Proofs.Ytnklfbeiagkhiaa
set_option linter.unusedSimpArgs false
set_option linter.unusedVariables false
open Go Go.RowKit Go.Shelf
theorem tell_refD (xs : List Ent) (a : A2) (hm : ∀ x ∈ xs, wMatch x.w a = rMatch x.w a) : tell xs a = rTell xs a := by
  unfold tell rTell
  rw [rBest_best xs a hm]
  cases h : (best xs a).2 with
  | false => simp
  | true =>
    simp only [if_true]
    rw [if_neg (by omega), Int.toNat_natCast]
theorem rTell_tell {xs : List Ent} {a : A2} (hm : ∀ x ∈ xs, wMatch x.w a = rMatch x.w a) : rTell xs a = tell xs a := (tell_refD xs a hm).symm
/-- No clash among the first i, and of the one behind them with j of these. -/
def ClearS (xs : List Ent) (i j : Nat) : Prop := ∀ (p q : Nat) e f, xs[p]? = some e → xs[q]? = some f → q < p → (p < i ∨ p = i ∧ q < j) → ¬ (e.len = f.len ∧ rMeet e.w f.w = true)
theorem ClearS.next {xs : List Ent} {i : Nat} (h : ClearS xs i i) : ClearS xs (i + 1) 0 := fun p q e f h1 h2 h3 h4 => h p q e f h1 h2 h3 (by omega)
theorem ClearS.start {xs : List Ent} : ClearS xs 0 0 := fun p q e f h1 h2 h3 h4 => by omega
theorem ClearS.step {xs : List Ent} {i j : Nat} (h : ClearS xs i j) (hi : i < xs.length) (hj : j < xs.length) (hn : ¬ (xs[i].len = xs[j].len ∧ rMeet xs[i].w xs[j].w = true)) : ClearS xs i (j + 1) := fun p q e f h1 h2 h3 h4 => by
  by_cases e1 : p = i ∧ q = j
  · obtain ⟨rfl, rfl⟩ := e1
    rw [List.getElem?_eq_getElem hi] at h1
    rw [List.getElem?_eq_getElem hj] at h2
    injection h1 with h1; injection h2 with h2
    rw [← h1, ← h2]; exact hn
  · exact h p q e f h1 h2 h3 (by omega)
theorem SimpleR.not {xs : List Ent} {i j : Nat} (hi : i < xs.length) (hj : j < i) (hn : xs[i].len = xs[j].len ∧ rMeet xs[i].w xs[j].w = true) : ¬ SimpleR xs := fun h => by
  have := (List.pairwise_iff_getElem.1 h) j i (by omega) hi hj
  exact this hn
attribute [local irreducible] OpH OpT LT CT HT Good GoodO CTI rMeet rMatch
theorem g_rTell (xs : List Ent) (a0 a1 : Int) (ha : A2.ok ⟨a0, a1⟩) (hok : ∀ x ∈ xs, x.w.ok) : Good Try.prog 58 [.sl 6 (xs.map encE), .val (.agg #[.int .u64 a0, .int .u64 a1])] (.val (.int .i64 (tell xs ⟨a0, a1⟩))) := by
  rw [← rTell_tell fun x hx => match_ref (hok x hx) ha]
  exact Good.sl1 (args := [.agg #[.int .u64 a0, .int .u64 a1]]) posE rfl fun A c w _ _ h => c_rTell A c xs a0 a1 ha hok w h
end Go.Proofs.Ytnklfbeiagkhiaa
