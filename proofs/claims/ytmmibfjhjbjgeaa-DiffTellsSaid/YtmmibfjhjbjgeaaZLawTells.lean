/- EntryTells: the walk. -/
import Derived.Test.YtmmibfjhjbjgeaaZGoods
import Derived.Test.YtmmibfjhjbjgeaaZOpen
namespace Go.Proofs.Ytmmibfjhjbjgeaa
set_option linter.unusedSimpArgs false
set_option linter.unusedVariables false
open Go Go.RowKit Go.Shelf

/-! ### What is told is what one of the longest that match says -/
def TellIs (xs : List Ent) (a : A2) (t : Int) : Prop :=
  (t = 0 ∧ ∀ e ∈ xs, wMatch e.w a = false) ∨ ∃ e ∈ xs, wMatch e.w a = true ∧ (∀ f ∈ xs, wMatch f.w a = true → f.len ≤ e.len) ∧ t = e.act
theorem bestTo_is (xs : List Ent) (a : A2) : ∀ k, k ≤ xs.length → ((bestTo xs a k).2 = false → ∀ i, i < k → wMatch (nth xs i).w a = false) ∧
    ((bestTo xs a k).2 = true → (bestTo xs a k).1 < k ∧ wMatch (nth xs (bestTo xs a k).1).w a = true ∧ ∀ i, i < k → wMatch (nth xs i).w a = true → (nth xs i).len ≤ (nth xs (bestTo xs a k).1).len)
  | 0, _ => ⟨fun _ i hi => absurd hi (Nat.not_lt_zero i), fun h => by simp [bestTo] at h⟩
  | k + 1, hk => by
    obtain ⟨h1, h2⟩ := bestTo_is xs a k (by omega)
    simp only [bestTo]
    split
    · rename_i hc
      simp only [Bool.and_eq_true, Bool.or_eq_true, Bool.not_eq_true', decide_eq_true_eq] at hc
      refine ⟨(fun h => by cases h), fun _ => ⟨Nat.lt_succ_self _, hc.1, fun i hi hm => ?_⟩⟩
      by_cases e : i = k
      · subst e; exact Int.le_refl _
      · rcases hc.2 with h3 | h3
        · rw [h1 h3 i (by omega)] at hm; cases hm
        · cases hb : (bestTo xs a k).2 with
          | false => rw [h1 hb i (by omega)] at hm; cases hm
          | true =>
            have h4 := (h2 hb).2.2 i (by omega) hm
            show (nth xs i).len ≤ (nth xs k).len
            omega
    · rename_i hc
      simp only [Bool.and_eq_true, Bool.or_eq_true, Bool.not_eq_true', decide_eq_true_eq, not_and, not_or] at hc
      refine ⟨fun hb i hi => ?_, fun hb => ?_⟩
      · by_cases e : i = k
        · subst e
          cases hm : wMatch (nth xs i).w a with
          | false => rfl
          | true => exact absurd hb (hc hm).1
        · exact h1 hb i (by omega)
      · obtain ⟨h3, h4, h5⟩ := h2 hb
        refine ⟨by omega, h4, fun i hi hm => ?_⟩
        by_cases e : i = k
        · subst e
          have := (hc hm).2
          omega
        · exact h5 i (by omega) hm
theorem tell_is (xs : List Ent) (a : A2) : TellIs xs a (tell xs a) := by
  obtain ⟨h1, h2⟩ := bestTo_is xs a xs.length (Nat.le_refl _)
  unfold tell best
  cases hb : (bestTo xs a xs.length).2 with
  | false =>
    refine .inl ⟨by simp, fun e he => ?_⟩
    obtain ⟨i, hi, rfl⟩ := List.getElem_of_mem he
    have := h1 hb i hi
    rwa [nth_at xs hi] at this
  | true =>
    obtain ⟨h3, h4, h5⟩ := h2 hb
    refine .inr ⟨nth xs (bestTo xs a xs.length).1, ?_, h4, fun f hf hm => ?_, by simp⟩
    · rw [nth_at xs h3]; exact List.getElem_mem h3
    · obtain ⟨i, hi, rfl⟩ := List.getElem_of_mem hf
      have := h5 i hi (by rw [nth_at xs hi]; exact hm)
      rwa [nth_at xs hi] at this
/-- No two as long with other actions match. -/
def NoClash (xs : List Ent) (a : A2) : Prop := ∀ e ∈ xs, ∀ f ∈ xs, wMatch e.w a = true → wMatch f.w a = true → e.len = f.len → e.act = f.act
theorem tell_same {xs ys : List Ent} {a : A2} (hm : ∀ e, e ∈ xs ↔ e ∈ ys) (h : NoClash xs a) : tell ys a = tell xs a := by
  rcases tell_is xs a with ⟨h1, h2⟩ | ⟨e, he, h1, h2, h3⟩ <;> rcases tell_is ys a with ⟨k1, k2⟩ | ⟨f, hf, k1, k2, k3⟩
  · rw [h1, k1]
  · rw [h2 f ((hm f).2 hf)] at k1; cases k1
  · rw [k2 e ((hm e).1 he)] at h1; cases h1
  · have e1 := h2 f ((hm f).2 hf) k1
    have e2 := k2 e ((hm e).1 he) h1
    rw [h3, k3]
    exact (h e he f ((hm f).2 hf) h1 k1 (by omega)).symm
/-- Behind i entries, and j of those ahead, no clash was met. -/
def Clear (xs : List Ent) (a : A2) (i j : Nat) : Prop := ∀ (p q : Nat) e f, xs[p]? = some e → xs[q]? = some f → q < p → (p < i ∨ p = i ∧ q < j) → ¬ (e.len = f.len ∧ ¬ e.act = f.act ∧ rMatch e.w a = true ∧ rMatch f.w a = true)
theorem Clear.next {xs : List Ent} {a : A2} {i : Nat} (h : Clear xs a i i) : Clear xs a (i + 1) 0 := fun p q e f h1 h2 h3 h4 => h p q e f h1 h2 h3 (by omega)
theorem Clear.start {xs : List Ent} {a : A2} : Clear xs a 0 0 := fun p q e f h1 h2 h3 h4 => by omega
theorem Clear.step {xs : List Ent} {a : A2} {i j : Nat} (h : Clear xs a i j) (hi : i < xs.length) (hj : j < xs.length) (hn : ¬ (xs[i].len = xs[j].len ∧ ¬ xs[i].act = xs[j].act ∧ rMatch xs[i].w a = true ∧ rMatch xs[j].w a = true)) : Clear xs a i (j + 1) := fun p q e f h1 h2 h3 h4 => by
  by_cases e1 : p = i ∧ q = j
  · obtain ⟨rfl, rfl⟩ := e1
    rw [List.getElem?_eq_getElem hi] at h1
    rw [List.getElem?_eq_getElem hj] at h2
    injection h1 with h1; injection h2 with h2
    rw [← h1, ← h2]; exact hn
  · exact h p q e f h1 h2 h3 (by omega)
theorem Clear.clash {xs : List Ent} {a : A2} (h : Clear xs a xs.length 0) (hm : ∀ x ∈ xs, wMatch x.w a = rMatch x.w a) : NoClash xs a := by
  intro e he f hf h1 h2 h3
  obtain ⟨p, hp, rfl⟩ := List.getElem_of_mem he
  obtain ⟨q, hq, rfl⟩ := List.getElem_of_mem hf
  rw [hm _ (List.getElem_mem _)] at h1 h2
  rcases Nat.lt_trichotomy p q with h4 | h4 | h4
  · exact Decidable.byContradiction fun hne => h q p _ _ (List.getElem?_eq_getElem hq) (List.getElem?_eq_getElem hp) h4 (.inl hq) ⟨h3.symm, fun e => hne e.symm, h2, h1⟩
  · subst h4; rfl
  · exact Decidable.byContradiction fun hne => h p q _ _ (List.getElem?_eq_getElem hp) (List.getElem?_eq_getElem hq) h4 (.inl hp) ⟨h3, hne, h1, h2⟩
theorem first_one {p : Ent → Bool} {x : Ent} : firstAt p [x] = if p x then 0 else -1 := by simp [firstAt]
theorem first_one_t {p : Ent → Bool} {x : Ent} : (decide (firstAt p [x] = 0)) = p x := by
  rw [first_one]; cases p x <;> simp
theorem rev_snoc (xs : List Ent) {k : Nat} (hk : k < xs.length) : (xs.reverse.take k) ++ [xs[xs.length - 1 - k]] = xs.reverse.take (k + 1) := by
  rw [List.take_succ_eq_append_getElem (by simpa using hk)]
  simp
attribute [local irreducible] OpH OpT LT CT HT Good rMatch wMatch
end Go.Proofs.Ytmmibfjhjbjgeaa
