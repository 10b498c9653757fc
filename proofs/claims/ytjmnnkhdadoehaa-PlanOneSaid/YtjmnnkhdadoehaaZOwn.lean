/- Rows of the call's own: append of one element, and what is kept. -/
import Derived.Test.YtjmnnkhdadoehaaZRead
import Derived.Maps.AppendAt
namespace Go.Proofs.Ytjmnnkhdadoehaa
set_option linter.unusedSimpArgs false
set_option linter.unusedVariables false
open Go Go.RowKit

theorem grownBy_of_below {w w' : World} (h : Below w.heap.size w w') (row : Option Nat) : w.grownBy w' row := ⟨h.os, h.tape, h.output, h.size, fun i hi _ => h.block i hi⟩
theorem own_below {w w' : World} {base : Nat} {e : TypeId} {size n : Nat} {v : Value} {xs : List Value} (h : w.ownsRow base e size v n xs) (hb : Below w.heap.size w w') : w'.ownsRow base e size v n xs :=
  h.kept (grownBy_of_below hb none) (by cases v.ownBlock <;> simp)
theorem own_base {w : World} {base : Nat} {e : TypeId} {size n : Nat} {v : Value} {xs : List Value} (h : w.ownsRow base e size v n xs) (k : Nat) (hk : v.ownBlock = some k) : base ≤ k := (h.lt k hk).1
theorem own_form {w : World} {base : Nat} {e : TypeId} {size n : Nat} {v : Value} {xs : List Value} (h : w.ownsRow base e size v n xs) : ∃ A c, v = .slice A n c ∧ n ≤ c ∧ n ≤ 9223372036854775807 := by
  rcases h.2 with ⟨rfl, rfl⟩ | ⟨g, cap, cur, rfl, _, _, h1, h2, _⟩
  · exact ⟨none, 0, rfl, Nat.le_refl _, by omega⟩
  · exact ⟨_, cap, rfl, h1, by unfold maxLen at h2; omega⟩
theorem below_own {w W w1 : World} (h : Below w.heap.size w W) {row : Option Nat} (hg : W.grownBy w1 row) (hr : ∀ k, row = some k → w.heap.size ≤ k) : Below w.heap.size w w1 := h.grown hg h.size hr
section
variable {P : Program} {ops : Array Oper} {rest : List Oper} {o : Oper} {a : Act} {Q : Exit → Act → World → Prop}
theorem app_one {W : World} {ys : Array Value} {t e : TypeId} (base k bytes : Nat) (z : Value) (ht : P.underlying t = some (.slice e))
    (hinfo : (P.info? e).map (fun i => (i.zero, i.size, i.bytes)) = some (some z, k, bytes)) (hz : z.cells.size = k) (hk : 0 < k) {s x : Operand} (hgd : o.guard = none)
    (ho : o.op = .call { callee := .builtin .append, args := #[s, x], argTypes := #[t, t] }) {v : Value} {n : Nat} {cs : List Value} (hs : a.eval s = v) (hx : a.eval x = .slice (some ⟨W.heap.size, 0, none⟩) 1 1)
    (hys : ys.size = k) (h1 : ∀ u ∈ ys.toList, u.oneCell' = true) (HO : W.ownsRow base e k v n cs) (hb0 : 0 < bytes) (hbase : base ≤ W.heap.size) (hl : (n + 1) * bytes ≤ 140737488355328)
    (h : ∀ v1 w1, w1.ownsRow base e k v1 (n + 1) (cs ++ ys.toList) → W.grownBy w1 v.ownBlock → wpList P ops Q rest (a.put o.dst v1) w1) : wpList P ops Q (o :: rest) a (W.alloc (.cells ys e)) := by
  obtain ⟨i0, hi, hzz⟩ := Option.map_eq_some_iff.1 hinfo
  simp only [Prod.mk.injEq] at hzz
  obtain ⟨hz0, hz1, hz2⟩ := hzz
  have hn : n + 1 ≤ 140737488355328 := Nat.le_trans (Nat.le_mul_of_pos_right _ hb0) hl
  refine wpList_append_own (W.alloc (.cells ys e)) hgd s x t ho base e i0 z k bytes ht hi hz0 hz1 hz2 hz hk v n cs hs (HO.alloc _) ⟨W.heap.size, 0, none⟩ 1 1 ys.toList hx (by simp [hys])
    (fun j u hj => ?_) h1 (by unfold maxLen; omega) hl (by simp; omega) ?_
  · rw [Addr.add_lit]
    have hb := at_alloc W (.cells ys e)
    simp only [World.cell?, hb]
    simpa using hj
  · intro v1 w1 hown hg _
    exact h v1 w1 hown (World.grownBy.trans (World.grownBy_alloc W _ _) hg)
end
theorem rows_snoc {α : Type} (enc : α → List Value) (xs : List α) {k : Nat} (hk : k < xs.length) : (xs.take (k + 1)).flatMap enc = (xs.take k).flatMap enc ++ enc xs[k] := by
  rw [List.take_succ_eq_append_getElem hk, List.flatMap_append]; simp
end Go.Proofs.Ytjmnnkhdadoehaa

/- append of a whole row; single operations in a region. -/
namespace Go.Proofs.Ytjmnnkhdadoehaa
set_option linter.unusedSimpArgs false
set_option linter.unusedVariables false
open Go Go.RowKit

theorem flat_get {α : Type} {enc : α → List Value} {k : Nat} (hk : ∀ x, (enc x).length = k) : ∀ (xs : List α) (j : Nat) (u : Value), (xs.flatMap enc)[j]? = some u → ∃ i r x, j = i * k + r ∧ xs[i]? = some x ∧ (enc x)[r]? = some u
  | [], j, u, h => by simp at h
  | x :: xs, j, u, h => by
    rw [List.flatMap_cons] at h
    by_cases hj : j < k
    · rw [List.getElem?_append_left (by rw [hk]; exact hj)] at h
      exact ⟨0, j, x, by omega, rfl, h⟩
    · rw [List.getElem?_append_right (by rw [hk]; omega), hk] at h
      obtain ⟨i, r, y, e, h1, h2⟩ := flat_get hk xs (j - k) u h
      exact ⟨i + 1, r, y, by rw [Nat.succ_mul]; omega, by simpa using h1, h2⟩

theorem Reads.flat {α : Type} {enc : α → List Value} {k : Nat} {w : World} {A : Option Addr} {xs : List α} (hk : ∀ x, (enc x).length = k) (h : Reads enc k w A xs) :
    ∀ ad, A = some ad → ∀ j u, (xs.flatMap enc)[j]? = some u → w.cell? (ad.add j) = some u := by
  intro ad hA j u hj
  obtain ⟨i, r, x, e, hx, hu⟩ := flat_get hk xs j u hj
  obtain ⟨b, off, e2, _, hc⟩ := h.2 i x hx
  rw [hA, Option.some.injEq] at e2
  subst e2
  rw [Addr.add_lit, e, ← Nat.add_assoc]
  exact hc r u hu

section
variable {P : Program} {o : Oper} {a : Act} {K : Act → World → Prop} {Q : Exit → Act → World → Prop}
end
end Go.Proofs.Ytjmnnkhdadoehaa
