/- EntryTells: the walk. -/
import Derived.Test.YtjmnnkhdadoehaaWGoods
import Derived.Test.YtjmnnkhdadoehaaWOpen
namespace Go.Proofs.Ytjmnnkhdadoehaa
set_option linter.unusedSimpArgs false
set_option linter.unusedVariables false
open Go Go.RowKit Go.Shelf

/-! ### What is told is what one of the longest that match says -/
/-- Behind i entries, and j of those ahead, no clash was met. -/
def Clear (xs : List Ent) (a : A2) (i j : Nat) : Prop := ∀ (p q : Nat) e f, xs[p]? = some e → xs[q]? = some f → q < p → (p < i ∨ p = i ∧ q < j) → ¬ (e.len = f.len ∧ ¬ e.act = f.act ∧ rMatch e.w a = true ∧ rMatch f.w a = true)
theorem Clear.next {xs : List Ent} {a : A2} {i : Nat} (h : Clear xs a i i) : Clear xs a (i + 1) 0 := fun p q e f h1 h2 h3 h4 => h p q e f h1 h2 h3 (by omega)
theorem Clear.start {xs : List Ent} {a : A2} : Clear xs a 0 0 := fun p q e f h1 h2 h3 h4 => by omega
theorem Clear.step {xs : List Ent} {a : A2} {i j : Nat} (h : Clear xs a i j) (hi : i < xs.length) (hj : j < xs.length) (hn : ¬ (xs[i].len = xs[j].len ∧ ¬ xs[i].act = xs[j].act ∧ rMatch xs[i].w a = true ∧ rMatch xs[j].w a = true)) : Clear xs a i (j + 1) := fun p q e f h1 h2 h3 h4 => by
  by_cases e1 : p = i ∧ q = j
  · obtain ⟨rfl, rfl⟩ := e1
    rw [List.getElem?_eq_getElem hi] at h1
    rw [List.getElem?_eq_getElem hj] at h2
    injection h1 with h1; injection h2 with h2
    rw [← h1, ← h2]; exact hn
  · exact h p q e f h1 h2 h3 (by omega)
attribute [local irreducible] OpH OpT LT CT HT Good rMatch wMatch
end Go.Proofs.Ytjmnnkhdadoehaa

/- Rows of which no two as long meet, in plain Lean. -/
namespace Go.Proofs.Ytjmnnkhdadoehaa
set_option linter.unusedSimpArgs false
set_option linter.unusedVariables false
open Go
theorem pw_mem {α : Type} {R : α → α → Prop} (hR : ∀ x y, R x y → R y x) : ∀ {l : List α}, l.Pairwise R → ∀ {x y : α}, x ∈ l → y ∈ l → x ≠ y → R x y
  | [], _, _, _, hx, _, _ => by cases hx
  | z :: l, h, x, y, hx, hy, hne => by
    have h' := List.pairwise_cons.1 h
    rcases List.mem_cons.1 hx with e | hx
    · rcases List.mem_cons.1 hy with e' | hy
      · exact absurd (e.trans e'.symm) hne
      · rw [e]; exact h'.1 y hy
    · rcases List.mem_cons.1 hy with e' | hy
      · rw [e']; exact hR _ _ (h'.1 x hx)
      · exact pw_mem hR h'.2 hx hy hne
/-- No two as long meet. -/
def SimpleR (l : List Ent) : Prop := l.Pairwise fun x y => ¬ (y.len = x.len ∧ rMeet y.w x.w = true)
theorem rMeet_comm (x y : W2) : rMeet x y = rMeet y x := by
  rw [Bool.eq_iff_iff]
  unfold rMeet
  rw [allTo_iff, allTo_iff]
  have key : ∀ (x y : W2) k, rMeetP x y k = true → rMeetP y x k = true := fun x y k h => by
    unfold rMeetP at *
    cases e1 : abit x.m k <;> cases e2 : abit y.m k <;> cases e3 : abit x.v k <;> cases e4 : abit y.v k <;> simp_all
  exact ⟨fun h k hk => key _ _ k (h k hk), fun h k hk => key _ _ k (h k hk)⟩
theorem both_meet {x y : W2} {a : A2} (h1 : rMatch x a = true) (h2 : rMatch y a = true) : rMeet x y = true := by
  unfold rMatch at h1 h2
  unfold rMeet
  rw [allTo_iff] at *
  intro k hk
  have e1 := h1 k hk
  have e2 := h2 k hk
  unfold rMatchP at e1 e2
  unfold rMeetP
  cases e3 : abit x.m k <;> cases e4 : abit y.m k <;> cases e5 : abit x.v k <;> cases e6 : abit y.v k <;> cases e7 : abit a k <;> simp_all
theorem SimpleR.of_mem {l : List Ent} (h : SimpleR l) {x y : Ent} (hx : x ∈ l) (hy : y ∈ l) (hne : x ≠ y) : ¬ (x.len = y.len ∧ rMeet x.w y.w = true) := by
  have := pw_mem (R := fun x y : Ent => ¬ (y.len = x.len ∧ rMeet y.w x.w = true)) (fun x y h hc => h ⟨hc.1.symm, by rw [rMeet_comm]; exact hc.2⟩) h hy hx (fun e => hne e.symm)
  exact this
/-- Of those that match one alone is so long. -/
structure Uniq (l : List Ent) (a : A2) : Prop where
  eq : ∀ x ∈ l, ∀ y ∈ l, wMatch x.w a = true → wMatch y.w a = true → x.len = y.len → x = y
theorem SimpleR.uniq {l : List Ent} {a : A2} (h : SimpleR l) (hm : ∀ x ∈ l, wMatch x.w a = rMatch x.w a) : Uniq l a := ⟨fun x hx y hy h1 h2 h3 => Classical.byContradiction fun hne =>
  h.of_mem hx hy hne ⟨h3, both_meet (by rw [← hm x hx]; exact h1) (by rw [← hm y hy]; exact h2)⟩⟩
end Go.Proofs.Ytjmnnkhdadoehaa
