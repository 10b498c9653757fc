/- Rows of the call's own: append of one element, and what is kept. -/
import Derived.Test.YtjmnnkhdadoehaaGreatYRead
import Derived.Maps.AppendAt
namespace Go.Proofs.YtjmnnkhdadoehaaGreat
set_option linter.unusedSimpArgs false
set_option linter.unusedVariables false
open Go Go.RowKit

theorem grownBy_of_below {w w' : World} (h : Below w.heap.size w w') (row : Option Nat) : w.grownBy w' row := ⟨h.os, h.tape, h.output, h.size, fun i hi _ => h.block i hi⟩
theorem own_below {w w' : World} {base : Nat} {e : TypeId} {size n : Nat} {v : Value} {xs : List Value} (h : w.ownsRow base e size v n xs) (hb : Below w.heap.size w w') : w'.ownsRow base e size v n xs :=
  h.kept (grownBy_of_below hb none) (by cases v.ownBlock <;> simp)
theorem own_grew {w : World} {base : Nat} {e : TypeId} {size n : Nat} {v : Value} {xs : List Value} (h : w.ownsRow base e size v n xs) (p : Ext) : (grew w p).ownsRow base e size v n xs := own_below h (grew_below w p)
theorem own_base {w : World} {base : Nat} {e : TypeId} {size n : Nat} {v : Value} {xs : List Value} (h : w.ownsRow base e size v n xs) (k : Nat) (hk : v.ownBlock = some k) : base ≤ k := (h.lt k hk).1
theorem own_form {w : World} {base : Nat} {e : TypeId} {size n : Nat} {v : Value} {xs : List Value} (h : w.ownsRow base e size v n xs) : ∃ A c, v = .slice A n c ∧ n ≤ c ∧ n ≤ 9223372036854775807 := by
  rcases h.2 with ⟨rfl, rfl⟩ | ⟨g, cap, cur, rfl, _, _, h1, h2, _⟩
  · exact ⟨none, 0, rfl, Nat.le_refl _, by omega⟩
  · exact ⟨_, cap, rfl, h1, by unfold maxLen at h2; omega⟩
theorem below_own {w W w1 : World} (h : Below w.heap.size w W) {row : Option Nat} (hg : W.grownBy w1 row) (hr : ∀ k, row = some k → w.heap.size ≤ k) : Below w.heap.size w w1 := h.grown hg h.size hr
theorem below_own' {B : Nat} {w W w1 : World} (h : Below B w W) (hB : B ≤ W.heap.size) {row : Option Nat} (hg : W.grownBy w1 row) (hr : ∀ k, row = some k → B ≤ k) : Below B w w1 := h.grown hg hB hr

section
variable {P : Program} {ops : Array Oper} {rest : List Oper} {o : Oper} {a : Act} {Q : Exit → Act → World → Prop}
theorem app_one {W : World} {ys : Array Value} {t e : TypeId} (base k bytes : Nat) (z : Value) (ht : P.underlying t = some (.slice e))
    (hinfo : (P.info? e).map (fun i => (i.zero, i.size, i.bytes)) = some (some z, k, bytes)) (hz : z.cells.size = k) (hk : 0 < k) {s x : Operand} (hgd : o.guard = none)
    (ho : o.op = .call { callee := .builtin .append, args := #[s, x], argTypes := #[t, t] }) {v : Value} {n : Nat} {cs : List Value} (hs : a.eval s = v) (hx : a.eval x = .slice (some ⟨W.heap.size, 0, none⟩) 1 1)
    (hys : ys.size = k) (h1 : ∀ u ∈ ys.toList, u.oneCell' = true) (HO : W.ownsRow base e k v n cs) (hb0 : 0 < bytes) (hbase : base ≤ W.heap.size) (hl : (n + 1) * bytes ≤ 140737488355328)
    (h : ∀ v1 w1, w1.ownsRow base e k v1 (n + 1) (cs ++ ys.toList) → W.grownBy w1 v.ownBlock → wpList P ops Q rest (a.put o.dst v1) w1) : wpList P ops Q (o :: rest) a (W.alloc (.cells ys e)) := by
  obtain ⟨i0, hi, hzz⟩ := Option.map_eq_some_iff.1 hinfo
  simp only [Prod.mk.injEq] at hzz
  obtain ⟨hz0, hz1, hz2⟩ := hzz
  have hn : n + 1 ≤ 140737488355328 := Nat.le_trans (Nat.le_mul_of_pos_right _ hb0) hl
  refine wpList_append_own (W.alloc (.cells ys e)) hgd s x t ho base e i0 z k bytes ht hi hz0 hz1 hz2 hz hk v n cs hs (HO.alloc _) ⟨W.heap.size, 0, none⟩ 1 1 ys.toList hx (by simp [hys])
    (fun j u hj => ?_) h1 (by unfold maxLen; omega) hl (by simp; omega) ?_
  · rw [Addr.add_lit]
    have hb := at_alloc W (.cells ys e)
    simp only [World.cell?, hb]
    simpa using hj
  · intro v1 w1 hown hg _
    exact h v1 w1 hown (World.grownBy.trans (World.grownBy_alloc W _ _) hg)
end
theorem rows_snoc {α : Type} (enc : α → List Value) (xs : List α) {k : Nat} (hk : k < xs.length) : (xs.take (k + 1)).flatMap enc = (xs.take k).flatMap enc ++ enc xs[k] := by
  rw [List.take_succ_eq_append_getElem hk, List.flatMap_append]; simp
end Go.Proofs.YtjmnnkhdadoehaaGreat

/- append of a whole row; single operations in a region. -/
namespace Go.Proofs.YtjmnnkhdadoehaaGreat
set_option linter.unusedSimpArgs false
set_option linter.unusedVariables false
open Go Go.RowKit

theorem flat_get {α : Type} {enc : α → List Value} {k : Nat} (hk : ∀ x, (enc x).length = k) : ∀ (xs : List α) (j : Nat) (u : Value), (xs.flatMap enc)[j]? = some u → ∃ i r x, j = i * k + r ∧ xs[i]? = some x ∧ (enc x)[r]? = some u
  | [], j, u, h => by simp at h
  | x :: xs, j, u, h => by
    rw [List.flatMap_cons] at h
    by_cases hj : j < k
    · rw [List.getElem?_append_left (by rw [hk]; exact hj)] at h
      exact ⟨0, j, x, by omega, rfl, h⟩
    · rw [List.getElem?_append_right (by rw [hk]; omega), hk] at h
      obtain ⟨i, r, y, e, h1, h2⟩ := flat_get hk xs (j - k) u h
      exact ⟨i + 1, r, y, by rw [Nat.succ_mul]; omega, by simpa using h1, h2⟩

theorem Reads.flat {α : Type} {enc : α → List Value} {k : Nat} {w : World} {A : Option Addr} {xs : List α} (hk : ∀ x, (enc x).length = k) (h : Reads enc k w A xs) :
    ∀ ad, A = some ad → ∀ j u, (xs.flatMap enc)[j]? = some u → w.cell? (ad.add j) = some u := by
  intro ad hA j u hj
  obtain ⟨i, r, x, e, hx, hu⟩ := flat_get hk xs j u hj
  obtain ⟨b, off, e2, _, hc⟩ := h.2 i x hx
  rw [hA, Option.some.injEq] at e2
  subst e2
  rw [Addr.add_lit, e, ← Nat.add_assoc]
  exact hc r u hu

theorem flat_length {α : Type} {enc : α → List Value} {k : Nat} (hk : ∀ x, (enc x).length = k) (xs : List α) : (xs.flatMap enc).length = xs.length * k := by
  induction xs with
  | nil => simp
  | cons x xs ih => rw [List.flatMap_cons, List.length_append, hk, ih, List.length_cons, Nat.succ_mul, Nat.add_comm]

section
variable {P : Program} {o : Oper} {a : Act} {K : Act → World → Prop} {Q : Exit → Act → World → Prop}
theorem wp_app_row {α : Type} {enc : α → List Value} {W : World} {t e : TypeId} (base k bytes : Nat) (z : Value) (ht : P.underlying t = some (.slice e))
    (hinfo : (P.info? e).map (fun i => (i.zero, i.size, i.bytes)) = some (some z, k, bytes)) (hz : z.cells.size = k) (hk : 0 < k) (hke : ∀ x, (enc x).length = k) (h1 : ∀ x, ∀ u ∈ enc x, u.oneCell' = true) {s x : Operand}
    (ho : o.op = .call { callee := .builtin .append, args := #[s, x], argTypes := #[t, t] }) {v : Value} {n : Nat} {cs : List Value} (hs : a.eval s = v) {A : Option Addr} {c : Nat} (xs : List α) (hx : a.eval x = .slice A xs.length c)
    (hr : Reads enc k W A xs) (hA : A = none → c = 0) (HO : W.ownsRow base e k v n cs) (hb0 : 0 < bytes) (hbase : base ≤ W.heap.size) (hl : (n + xs.length) * bytes ≤ 140737488355328)
    (h : ∀ v1 w1, w1.ownsRow base e k v1 (n + xs.length) (cs ++ xs.flatMap enc) → W.grownBy w1 v.ownBlock → K (a.put o.dst v1) w1) : o.wp P a W K Q := by
  obtain ⟨i0, hi, hzz⟩ := Option.map_eq_some_iff.1 hinfo
  simp only [Prod.mk.injEq] at hzz
  obtain ⟨hz0, hz1, hz2⟩ := hzz
  have hn : n + xs.length ≤ 140737488355328 := Nat.le_trans (Nat.le_mul_of_pos_right _ hb0) hl
  cases A with
  | some ad =>
    refine wp_append_own W s x t ho base e i0 z k bytes ht hi hz0 hz1 hz2 hz hk v n cs hs HO ad xs.length c (xs.flatMap enc) hx (flat_length hke xs) (hr.flat hke ad rfl)
      (fun u hu => ?_) (by unfold maxLen; omega) hl hbase fun v1 w1 hown hg _ => h v1 w1 hown hg
    obtain ⟨y, _, hy⟩ := List.mem_flatMap.1 hu
    exact h1 y u hy
  | none =>
    have hnil : xs = [] := by
      cases xs with
      | nil => rfl
      | cons y ys => obtain ⟨_, _, e2, _⟩ := hr.2 0 y rfl; cases e2
    subst hnil
    rw [hA rfl] at hx
    have hrun := run_append_owned_none (P := P) W base t o.type e i0 k ht hi v n cs HO
    unfold Oper.wp
    simp only [List.length_nil] at hx
    simp [execOp, ho, resolve, invoke, builtin, hs, hx, hrun, Result.andThen]
    exact h _ _ (by simpa using HO) (World.grownBy.refl _ _)
end
end Go.Proofs.YtjmnnkhdadoehaaGreat
