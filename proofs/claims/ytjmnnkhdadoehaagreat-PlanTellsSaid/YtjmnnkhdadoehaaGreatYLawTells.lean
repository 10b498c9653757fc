/- EntryTells: the walk. -/
import Derived.Test.YtjmnnkhdadoehaaGreatYGoods
import Derived.Test.YtjmnnkhdadoehaaGreatYOpen
namespace Go.Proofs.YtjmnnkhdadoehaaGreat
set_option linter.unusedSimpArgs false
set_option linter.unusedVariables false
open Go Go.RowKit Go.Shelf

/-! ### What is told is what one of the longest that match says -/
def TellIs (xs : List Ent) (a : A2) (t : Int) : Prop :=
  (t = 0 ∧ ∀ e ∈ xs, wMatch e.w a = false) ∨ ∃ e ∈ xs, wMatch e.w a = true ∧ (∀ f ∈ xs, wMatch f.w a = true → f.len ≤ e.len) ∧ t = e.act
theorem bestTo_is (xs : List Ent) (a : A2) : ∀ k, k ≤ xs.length → ((bestTo xs a k).2 = false → ∀ i, i < k → wMatch (nth xs i).w a = false) ∧
    ((bestTo xs a k).2 = true → (bestTo xs a k).1 < k ∧ wMatch (nth xs (bestTo xs a k).1).w a = true ∧ ∀ i, i < k → wMatch (nth xs i).w a = true → (nth xs i).len ≤ (nth xs (bestTo xs a k).1).len)
  | 0, _ => ⟨fun _ i hi => absurd hi (Nat.not_lt_zero i), fun h => by simp [bestTo] at h⟩
  | k + 1, hk => by
    obtain ⟨h1, h2⟩ := bestTo_is xs a k (by omega)
    simp only [bestTo]
    split
    · rename_i hc
      simp only [Bool.and_eq_true, Bool.or_eq_true, Bool.not_eq_true', decide_eq_true_eq] at hc
      refine ⟨(fun h => by cases h), fun _ => ⟨Nat.lt_succ_self _, hc.1, fun i hi hm => ?_⟩⟩
      by_cases e : i = k
      · subst e; exact Int.le_refl _
      · rcases hc.2 with h3 | h3
        · rw [h1 h3 i (by omega)] at hm; cases hm
        · cases hb : (bestTo xs a k).2 with
          | false => rw [h1 hb i (by omega)] at hm; cases hm
          | true =>
            have h4 := (h2 hb).2.2 i (by omega) hm
            show (nth xs i).len ≤ (nth xs k).len
            omega
    · rename_i hc
      simp only [Bool.and_eq_true, Bool.or_eq_true, Bool.not_eq_true', decide_eq_true_eq, not_and, not_or] at hc
      refine ⟨fun hb i hi => ?_, fun hb => ?_⟩
      · by_cases e : i = k
        · subst e
          cases hm : wMatch (nth xs i).w a with
          | false => rfl
          | true => exact absurd hb (hc hm).1
        · exact h1 hb i (by omega)
      · obtain ⟨h3, h4, h5⟩ := h2 hb
        refine ⟨by omega, h4, fun i hi hm => ?_⟩
        by_cases e : i = k
        · subst e
          have := (hc hm).2
          omega
        · exact h5 i (by omega) hm
theorem tell_is (xs : List Ent) (a : A2) : TellIs xs a (tell xs a) := by
  obtain ⟨h1, h2⟩ := bestTo_is xs a xs.length (Nat.le_refl _)
  unfold tell best
  cases hb : (bestTo xs a xs.length).2 with
  | false =>
    refine .inl ⟨by simp, fun e he => ?_⟩
    obtain ⟨i, hi, rfl⟩ := List.getElem_of_mem he
    have := h1 hb i hi
    rwa [nth_at xs hi] at this
  | true =>
    obtain ⟨h3, h4, h5⟩ := h2 hb
    refine .inr ⟨nth xs (bestTo xs a xs.length).1, ?_, h4, fun f hf hm => ?_, by simp⟩
    · rw [nth_at xs h3]; exact List.getElem_mem h3
    · obtain ⟨i, hi, rfl⟩ := List.getElem_of_mem hf
      have := h5 i hi (by rw [nth_at xs hi]; exact hm)
      rwa [nth_at xs hi] at this
def NoClash (xs : List Ent) (a : A2) : Prop := ∀ e ∈ xs, ∀ f ∈ xs, wMatch e.w a = true → wMatch f.w a = true → e.len = f.len → e.act = f.act
theorem tell_same {xs ys : List Ent} {a : A2} (hm : ∀ e, e ∈ xs ↔ e ∈ ys) (h : NoClash xs a) : tell ys a = tell xs a := by
  rcases tell_is xs a with ⟨h1, h2⟩ | ⟨e, he, h1, h2, h3⟩ <;> rcases tell_is ys a with ⟨k1, k2⟩ | ⟨f, hf, k1, k2, k3⟩
  · rw [h1, k1]
  · rw [h2 f ((hm f).2 hf)] at k1; cases k1
  · rw [k2 e ((hm e).1 he)] at h1; cases h1
  · have e1 := h2 f ((hm f).2 hf) k1
    have e2 := k2 e ((hm e).1 he) h1
    rw [h3, k3]
    exact (h e he f ((hm f).2 hf) h1 k1 (by omega)).symm
def Clear (xs : List Ent) (a : A2) (i j : Nat) : Prop := ∀ (p q : Nat) e f, xs[p]? = some e → xs[q]? = some f → q < p → (p < i ∨ p = i ∧ q < j) → ¬ (e.len = f.len ∧ ¬ e.act = f.act ∧ rMatch e.w a = true ∧ rMatch f.w a = true)
theorem Clear.next {xs : List Ent} {a : A2} {i : Nat} (h : Clear xs a i i) : Clear xs a (i + 1) 0 := fun p q e f h1 h2 h3 h4 => h p q e f h1 h2 h3 (by omega)
theorem Clear.step {xs : List Ent} {a : A2} {i j : Nat} (h : Clear xs a i j) (hi : i < xs.length) (hj : j < xs.length) (hn : ¬ (xs[i].len = xs[j].len ∧ ¬ xs[i].act = xs[j].act ∧ rMatch xs[i].w a = true ∧ rMatch xs[j].w a = true)) : Clear xs a i (j + 1) := fun p q e f h1 h2 h3 h4 => by
  by_cases e1 : p = i ∧ q = j
  · obtain ⟨rfl, rfl⟩ := e1
    rw [List.getElem?_eq_getElem hi] at h1
    rw [List.getElem?_eq_getElem hj] at h2
    injection h1 with h1; injection h2 with h2
    rw [← h1, ← h2]; exact hn
  · exact h p q e f h1 h2 h3 (by omega)
attribute [local irreducible] OpH OpT LT CT HT Good rMatch wMatch
end Go.Proofs.YtjmnnkhdadoehaaGreat

/- Rows of which no two as long meet, in plain Lean. -/
namespace Go.Proofs.YtjmnnkhdadoehaaGreat
set_option linter.unusedSimpArgs false
set_option linter.unusedVariables false
open Go
theorem pw_mem {α : Type} {R : α → α → Prop} (hR : ∀ x y, R x y → R y x) : ∀ {l : List α}, l.Pairwise R → ∀ {x y : α}, x ∈ l → y ∈ l → x ≠ y → R x y
  | [], _, _, _, hx, _, _ => by cases hx
  | z :: l, h, x, y, hx, hy, hne => by
    have h' := List.pairwise_cons.1 h
    rcases List.mem_cons.1 hx with e | hx
    · rcases List.mem_cons.1 hy with e' | hy
      · exact absurd (e.trans e'.symm) hne
      · rw [e]; exact h'.1 y hy
    · rcases List.mem_cons.1 hy with e' | hy
      · rw [e']; exact hR _ _ (h'.1 x hx)
      · exact pw_mem hR h'.2 hx hy hne
def SimpleR (l : List Ent) : Prop := l.Pairwise fun x y => ¬ (y.len = x.len ∧ rMeet y.w x.w = true)
theorem rMeet_comm (x y : W2) : rMeet x y = rMeet y x := by
  rw [Bool.eq_iff_iff]
  unfold rMeet
  rw [allTo_iff, allTo_iff]
  have key : ∀ (x y : W2) k, rMeetP x y k = true → rMeetP y x k = true := fun x y k h => by
    unfold rMeetP at *
    cases e1 : abit x.m k <;> cases e2 : abit y.m k <;> cases e3 : abit x.v k <;> cases e4 : abit y.v k <;> simp_all
  exact ⟨fun h k hk => key _ _ k (h k hk), fun h k hk => key _ _ k (h k hk)⟩
theorem rMeet_self (x : W2) : rMeet x x = true := by
  unfold rMeet
  rw [allTo_iff]
  intro k _
  unfold rMeetP
  simp
theorem both_meet {x y : W2} {a : A2} (h1 : rMatch x a = true) (h2 : rMatch y a = true) : rMeet x y = true := by
  unfold rMatch at h1 h2
  unfold rMeet
  rw [allTo_iff] at *
  intro k hk
  have e1 := h1 k hk
  have e2 := h2 k hk
  unfold rMatchP at e1 e2
  unfold rMeetP
  cases e3 : abit x.m k <;> cases e4 : abit y.m k <;> cases e5 : abit x.v k <;> cases e6 : abit y.v k <;> cases e7 : abit a k <;> simp_all
theorem SimpleR.of_mem {l : List Ent} (h : SimpleR l) {x y : Ent} (hx : x ∈ l) (hy : y ∈ l) (hne : x ≠ y) : ¬ (x.len = y.len ∧ rMeet x.w y.w = true) := by
  have := pw_mem (R := fun x y : Ent => ¬ (y.len = x.len ∧ rMeet y.w x.w = true)) (fun x y h hc => h ⟨hc.1.symm, by rw [rMeet_comm]; exact hc.2⟩) h hy hx (fun e => hne e.symm)
  exact this
structure Uniq (l : List Ent) (a : A2) : Prop where
  eq : ∀ x ∈ l, ∀ y ∈ l, wMatch x.w a = true → wMatch y.w a = true → x.len = y.len → x = y
theorem SimpleR.uniq {l : List Ent} {a : A2} (h : SimpleR l) (hm : ∀ x ∈ l, wMatch x.w a = rMatch x.w a) : Uniq l a := ⟨fun x hx y hy h1 h2 h3 => Classical.byContradiction fun hne =>
  h.of_mem hx hy hne ⟨h3, both_meet (by rw [← hm x hx]; exact h1) (by rw [← hm y hy]; exact h2)⟩⟩
theorem tell_eq {xs ys : List Ent} {a : A2} (hm : ∀ e, wMatch e.w a = true → (e ∈ xs ↔ e ∈ ys)) (h : Uniq xs a) : tell ys a = tell xs a := by
  rcases tell_is xs a with ⟨h1, h2⟩ | ⟨e, he, h1, h2, h3⟩ <;> rcases tell_is ys a with ⟨k1, k2⟩ | ⟨f, hf, k1, k2, k3⟩
  · rw [h1, k1]
  · rw [h2 f ((hm f k1).2 hf)] at k1; cases k1
  · rw [k2 e ((hm e h1).1 he)] at h1; cases h1
  · have e1 := h2 f ((hm f k1).2 hf) k1
    have e2 := k2 e ((hm e h1).1 he) h1
    rw [h3, k3, h.eq e he f ((hm f k1).2 hf) h1 k1 (by omega)]
theorem tell_best {l : List Ent} {a : A2} (h : Uniq l a) {e : Ent} (he : e ∈ l) (hm : wMatch e.w a = true) (hb : ∀ f ∈ l, wMatch f.w a = true → f.len ≤ e.len) : tell l a = e.act := by
  rcases tell_is l a with ⟨_, h2⟩ | ⟨f, hf, h1, h2, h3⟩
  · rw [h2 e he] at hm; cases hm
  · have e1 := hb f hf h1
    have e2 := h2 e he hm
    rw [h3, h.eq f hf e he h1 hm (by omega)]
theorem tell_has {l : List Ent} {a : A2} {x : Ent} (hx : x ∈ l) (hm : wMatch x.w a = true) : ∃ e ∈ l, wMatch e.w a = true ∧ (∀ f ∈ l, wMatch f.w a = true → f.len ≤ e.len) ∧ tell l a = e.act := by
  rcases tell_is l a with ⟨_, h2⟩ | ⟨f, hf, h1, h2, h3⟩
  · rw [h2 x hx] at hm; cases hm
  · exact ⟨f, hf, h1, h2, h3⟩
end Go.Proofs.YtjmnnkhdadoehaaGreat
