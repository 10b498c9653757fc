/- The best one, by both definitions, and what is ordered, in plain Lean. -/
import Derived.Test.YtmmibfjhjbjgeaaZSpecC
import Derived.Test.YtmmibfjhjbjgeaaZBits
namespace Go.Proofs.Ytmmibfjhjbjgeaa
set_option linter.unusedSimpArgs false
set_option linter.unusedVariables false
open Go
/-- The reference's best one of the places from k on. -/
def rb (xs : List Ent) (a : A2) (k : Nat) : Int := rBestTo xs a (xs.length - k)
theorem rb_end (xs : List Ent) (a : A2) : rb xs a xs.length = -1 := by unfold rb; rw [Nat.sub_self]; rfl
theorem rb_step (xs : List Ent) (a : A2) {m : Nat} (h : m < xs.length) :
    rb xs a m = if rMatch xs[m].w a && (decide (rb xs a (m + 1) < 0) || decide ((xs.getD (rb xs a (m + 1)).toNat default).len ≤ xs[m].len)) then (m : Int) else rb xs a (m + 1) := by
  unfold rb
  rw [show xs.length - m = (xs.length - (m + 1)) + 1 by omega]
  simp only [rBestTo]
  rw [show xs.length - 1 - (xs.length - (m + 1)) = m by omega, show xs.getD m default = xs[m] by simp [List.getD, h]]
theorem rb_hit {xs : List Ent} {a : A2} {m : Nat} {b : Int} (hb : rb xs a (m + 1) = b) (h : m < xs.length) (hm : rMatch xs[m].w a = true) (hl : b < 0 ∨ ∃ hj : b.toNat < xs.length, xs[b.toNat].len ≤ xs[m].len) : rb xs a m = m := by
  rw [rb_step xs a h, hb, hm]
  rcases hl with hl | ⟨hj, hl⟩
  · simp [hl]
  · simp [List.getD, hj, hl]
theorem rb_miss {xs : List Ent} {a : A2} {m : Nat} {b : Int} (hb : rb xs a (m + 1) = b) (h : m < xs.length) (hm : rMatch xs[m].w a = false) : rb xs a m = b := by
  rw [rb_step xs a h, hb, hm]; simp
theorem rb_less {xs : List Ent} {a : A2} {m : Nat} {b : Int} (hb : rb xs a (m + 1) = b) (h : m < xs.length) (h0 : 0 ≤ b) (hj : b.toNat < xs.length) (hl : ¬ xs[b.toNat].len ≤ xs[m].len) : rb xs a m = b := by
  rw [rb_step xs a h, hb]
  have : ¬ b < 0 := by omega
  simp [List.getD, hj, hl, this]
def rBest (xs : List Ent) (a : A2) : Int := rb xs a 0
/-- What is known of the reference's best one of the places from k on. -/
structure RB (xs : List Ent) (a : A2) (k : Nat) (b : Int) : Prop where
  ge : -1 ≤ b
  lt : b < xs.length
  none : b < 0 → ∀ (i : Nat) (x : Ent), k ≤ i → xs[i]? = some x → rMatch x.w a = false
  hit : 0 ≤ b → ∃ y, xs[b.toNat]? = some y ∧ rMatch y.w a = true ∧ (k : Int) ≤ b ∧ (∀ (i : Nat) (x : Ent), k ≤ i → xs[i]? = some x → rMatch x.w a = true → x.len ≤ y.len) ∧ ∀ (i : Nat) (x : Ent), k ≤ i → (i : Int) < b → xs[i]? = some x → rMatch x.w a = true → x.len < y.len
theorem rb_ok (xs : List Ent) (a : A2) : ∀ d k, k + d = xs.length → RB xs a k (rb xs a k)
  | 0, k, h => by
    obtain rfl : k = xs.length := by omega
    rw [rb_end]
    exact ⟨by omega, by omega, fun _ i x hi hx => (by rw [List.getElem?_eq_none hi] at hx; cases hx), fun h => by omega⟩
  | d + 1, k, h => by
    have ih := rb_ok xs a d (k + 1) (by omega)
    have hk : k < xs.length := by omega
    obtain ⟨b, hb⟩ : ∃ b, b = rb xs a (k + 1) := ⟨_, rfl⟩
    rw [← hb] at ih
    cases hm : rMatch xs[k].w a with
    | false =>
      rw [rb_miss hb.symm hk hm]
      refine ⟨ih.ge, ih.lt, fun h0 i x hi hx => ?_, fun h0 => ?_⟩
      · by_cases e : i = k
        · subst e; rw [List.getElem?_eq_getElem hk, Option.some.injEq] at hx; rw [← hx]; exact hm
        · exact ih.none h0 i x (by omega) hx
      · obtain ⟨y, hy, h1, h2, h3, h4⟩ := ih.hit h0
        refine ⟨y, hy, h1, by omega, fun i x hi hx hx2 => ?_, fun i x hi hib hx hx2 => ?_⟩
        · by_cases e : i = k
          · subst e; rw [List.getElem?_eq_getElem hk, Option.some.injEq] at hx; rw [← hx, hm] at hx2; cases hx2
          · exact h3 i x (by omega) hx hx2
        · by_cases e : i = k
          · subst e; rw [List.getElem?_eq_getElem hk, Option.some.injEq] at hx; rw [← hx, hm] at hx2; cases hx2
          · exact h4 i x (by omega) hib hx hx2
    | true =>
      by_cases h0 : b < 0
      · rw [rb_hit hb.symm hk hm (.inl h0)]
        refine ⟨by omega, by omega, fun h0 => by omega, fun _ => ⟨xs[k], by simp [hk], hm, by omega, fun i x hi hx hx2 => ?_, fun i x hi hib => by omega⟩⟩
        by_cases e : i = k
        · subst e; rw [List.getElem?_eq_getElem hk, Option.some.injEq] at hx; rw [← hx]; exact Int.le_refl _
        · rw [ih.none h0 i x (by omega) hx] at hx2; cases hx2
      · obtain ⟨y, hy, h1, h2, h3, h4⟩ := ih.hit (by omega)
        have hj : b.toNat < xs.length := (List.getElem?_eq_some_iff.1 hy).1
        have hye : xs[b.toNat] = y := (List.getElem?_eq_some_iff.1 hy).2
        by_cases hl : xs[b.toNat].len ≤ xs[k].len
        · rw [rb_hit hb.symm hk hm (.inr ⟨hj, hl⟩)]
          rw [hye] at hl
          refine ⟨by omega, by omega, fun h0 => by omega, fun _ => ⟨xs[k], by simp [hk], hm, by omega, fun i x hi hx hx2 => ?_, fun i x hi hib => by omega⟩⟩
          by_cases e : i = k
          · subst e; rw [List.getElem?_eq_getElem hk, Option.some.injEq] at hx; rw [← hx]; exact Int.le_refl _
          · have := h3 i x (by omega) hx hx2; omega
        · rw [rb_less hb.symm hk (by omega) hj hl]
          rw [hye] at hl
          refine ⟨by omega, ih.lt, fun h0 => by omega, fun _ => ⟨y, hy, h1, by omega, fun i x hi hx hx2 => ?_, fun i x hi hib hx hx2 => ?_⟩⟩
          · by_cases e : i = k
            · subst e; rw [List.getElem?_eq_getElem hk, Option.some.injEq] at hx; rw [← hx]; omega
            · exact h3 i x (by omega) hx hx2
          · by_cases e : i = k
            · subst e; rw [List.getElem?_eq_getElem hk, Option.some.injEq] at hx; rw [← hx]; omega
            · exact h4 i x (by omega) hib hx hx2
/-- What is known of the best one of the first k. -/
structure BT (xs : List Ent) (a : A2) (k : Nat) (r : Nat × Bool) : Prop where
  none : r.2 = false → r.1 = 0 ∧ ∀ (i : Nat) (x : Ent), i < k → xs[i]? = some x → wMatch x.w a = false
  hit : r.2 = true → ∃ y, xs[r.1]? = some y ∧ wMatch y.w a = true ∧ r.1 < k ∧ (∀ (i : Nat) (x : Ent), i < k → xs[i]? = some x → wMatch x.w a = true → x.len ≤ y.len) ∧ ∀ (i : Nat) (x : Ent), i < r.1 → xs[i]? = some x → wMatch x.w a = true → x.len < y.len
theorem bestTo_ok (xs : List Ent) (a : A2) : ∀ k, k ≤ xs.length → BT xs a k (bestTo xs a k)
  | 0, _ => ⟨fun _ => ⟨rfl, fun i x hi => by omega⟩, fun h => by cases h⟩
  | k + 1, h => by
    have ih := bestTo_ok xs a k (by omega)
    have hk : k < xs.length := by omega
    obtain ⟨⟨j, b⟩, hb⟩ : ∃ b, b = bestTo xs a k := ⟨_, rfl⟩
    rw [← hb] at ih
    cases hm : wMatch xs[k].w a with
    | false =>
      rw [bestTo_miss hb.symm hk (by simp [hm])]
      refine ⟨fun h0 => ⟨(ih.none h0).1, fun i x hi hx => ?_⟩, fun h0 => ?_⟩
      · by_cases e : i = k
        · subst e; rw [List.getElem?_eq_getElem hk, Option.some.injEq] at hx; rw [← hx]; exact hm
        · exact (ih.none h0).2 i x (by omega) hx
      · obtain ⟨y, hy, h1, h2, h3, h4⟩ := ih.hit h0
        refine ⟨y, hy, h1, by omega, fun i x hi hx hx2 => ?_, h4⟩
        by_cases e : i = k
        · subst e; rw [List.getElem?_eq_getElem hk, Option.some.injEq] at hx; rw [← hx, hm] at hx2; cases hx2
        · exact h3 i x (by omega) hx hx2
    | true =>
      cases b with
      | false =>
        rw [bestTo_hit0 hb.symm hk hm]
        refine ⟨fun h0 => (by cases h0), fun _ => ⟨xs[k], by simp [hk], hm, by simp, fun i x hi hx hx2 => ?_, fun i x hi hx hx2 => ?_⟩⟩
        · by_cases e : i = k
          · subst e; rw [List.getElem?_eq_getElem hk, Option.some.injEq] at hx; rw [← hx]; exact Int.le_refl _
          · rw [(ih.none rfl).2 i x (by omega) hx] at hx2; cases hx2
        · rw [(ih.none rfl).2 i x hi hx] at hx2; cases hx2
      | true =>
        obtain ⟨y, hy, h1, h2, h3, h4⟩ := ih.hit rfl
        have hj : j < xs.length := (List.getElem?_eq_some_iff.1 hy).1
        have hye : xs[j] = y := (List.getElem?_eq_some_iff.1 hy).2
        by_cases hl : xs[j].len < xs[k].len
        · rw [bestTo_hit1 hb.symm hk hj hm hl]
          rw [hye] at hl
          refine ⟨fun h0 => (by cases h0), fun _ => ⟨xs[k], by simp [hk], hm, by simp, fun i x hi hx hx2 => ?_, fun i x hi hx hx2 => ?_⟩⟩
          · by_cases e : i = k
            · subst e; rw [List.getElem?_eq_getElem hk, Option.some.injEq] at hx; rw [← hx]; exact Int.le_refl _
            · have := h3 i x (by omega) hx hx2; omega
          · have := h3 i x hi hx hx2; omega
        · rw [bestTo_less hb.symm hk hj hl]
          rw [hye] at hl
          refine ⟨fun h0 => (by cases h0), fun _ => ⟨y, hy, h1, by simp at h2 ⊢; omega, fun i x hi hx hx2 => ?_, h4⟩⟩
          by_cases e : i = k
          · subst e; rw [List.getElem?_eq_getElem hk, Option.some.injEq] at hx; rw [← hx]; omega
          · exact h3 i x (by omega) hx hx2
/-- Both are one. -/
theorem rBest_best (xs : List Ent) (a : A2) (hm : ∀ x ∈ xs, wMatch x.w a = rMatch x.w a) : rBest xs a = if (best xs a).2 then ((best xs a).1 : Int) else -1 := by
  have h1 := rb_ok xs a xs.length 0 (by omega)
  have h2 := bestTo_ok xs a xs.length (Nat.le_refl _)
  have hm' : ∀ (i : Nat) (x : Ent), xs[i]? = some x → wMatch x.w a = rMatch x.w a := fun i x hx => hm x (List.mem_of_getElem? hx)
  unfold rBest
  change BT xs a xs.length (best xs a) at h2
  generalize rb xs a 0 = b at h1
  obtain ⟨⟨j, f⟩, hf⟩ : ∃ r, r = best xs a := ⟨_, rfl⟩
  rw [← hf] at h2 ⊢
  cases f with
  | false =>
    have h3 := (h2.none rfl).2
    rw [if_neg (by simp)]
    by_cases h0 : b < 0
    · have := h1.ge; omega
    · obtain ⟨y, hy, h4, _⟩ := h1.hit (by omega)
      rw [← hm' _ y hy, h3 _ y (List.getElem?_eq_some_iff.1 hy).1 hy] at h4; cases h4
  | true =>
    obtain ⟨y, hy, h3, h4, h5, h6⟩ := h2.hit rfl
    rw [if_pos rfl]
    by_cases h0 : b < 0
    · have := h1.none h0 j y (by omega) hy
      rw [← hm' _ y hy, h3] at this; cases this
    · obtain ⟨z, hz, g3, g4, g5, g6⟩ := h1.hit (by omega)
      have hbn : b.toNat < xs.length := (List.getElem?_eq_some_iff.1 hz).1
      have e1 := h5 b.toNat z hbn hz ((hm' _ z hz).trans g3)
      have e2 := g5 j y (by omega) hy ((hm' _ y hy).symm.trans h3)
      show b = (j : Int)
      by_cases c1 : b.toNat < j
      · have := h6 b.toNat z c1 hz ((hm' _ z hz).trans g3); omega
      · by_cases c2 : (j : Int) < b
        · have := g6 j y (by omega) c2 hy ((hm' _ y hy).symm.trans h3); omega
        · omega
end Go.Proofs.Ytmmibfjhjbjgeaa
