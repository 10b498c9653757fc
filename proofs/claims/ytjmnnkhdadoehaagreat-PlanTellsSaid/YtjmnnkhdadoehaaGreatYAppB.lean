/- append of a row that is read, in a region and in a list of operations. -/
import Derived.Test.YtjmnnkhdadoehaaGreatYOwn
import Derived.Test.YtjmnnkhdadoehaaGreatYPlan
namespace Go.Proofs.YtjmnnkhdadoehaaGreat
set_option linter.unusedSimpArgs false
set_option linter.unusedVariables false
open Go Go.RowKit
theorem oneCell_E : ∀ (x : Ent), ∀ u ∈ encE x, u.oneCell' = true := by
  intro y u hu; simp [encE] at hu; rcases hu with rfl | rfl | rfl | rfl | rfl | rfl <;> rfl
def zeroE : Value := .agg #[.int .u64 0, .int .u64 0, .int .u64 0, .int .u64 0, .int .i64 0, .int .i64 0]
section
variable {P : Program} {o : Oper} {a : Act} {K : Act → World → Prop} {Q : Exit → Act → World → Prop} {ops : Array Oper} {rest : List Oper}
theorem wp_appR {α : Type} {enc : α → List Value} {W : World} {t e : TypeId} (base k bytes : Nat) (z : Value) (ht : P.underlying t = some (.slice e))
    (hinfo : (P.info? e).map (fun i => (i.zero, i.size, i.bytes)) = some (some z, k, bytes)) (hz : z.cells.size = k) (hk : 0 < k) (hke : ∀ x, (enc x).length = k) (h1 : ∀ x, ∀ u ∈ enc x, u.oneCell' = true) {s x : Operand}
    (ho : o.op = .call { callee := .builtin .append, args := #[s, x], argTypes := #[t, t] }) {v : Value} {n m : Nat} (cs : List α) (hs : a.eval s = v) {A : Option Addr} {c : Nat} (xs : List α) (hx : a.eval x = .slice A m c) (hm : m = xs.length)
    (hr : Reads enc k W A xs) (hA : A = none → c = 0) (HO : W.ownsRow base e k v n (cs.flatMap enc)) (hb0 : 0 < bytes) (hbase : base ≤ W.heap.size) (hl : (n + m) * bytes ≤ 140737488355328)
    (h : ∀ v1 w1, w1.ownsRow base e k v1 (n + m) ((cs ++ xs).flatMap enc) → W.grownBy w1 v.ownBlock → K (a.put o.dst v1) w1) : o.wp P a W K Q := by
  subst hm
  exact wp_app_row base k bytes z ht hinfo hz hk hke h1 ho hs xs hx hr hA HO hb0 hbase hl fun v1 w1 h2 h3 => h v1 w1 (by rw [List.flatMap_append]; exact h2) h3
theorem app_row {α : Type} {enc : α → List Value} {W : World} {t e : TypeId} (base k bytes : Nat) (z : Value) (ht : P.underlying t = some (.slice e))
    (hinfo : (P.info? e).map (fun i => (i.zero, i.size, i.bytes)) = some (some z, k, bytes)) (hz : z.cells.size = k) (hk : 0 < k) (hke : ∀ x, (enc x).length = k) (h1 : ∀ x, ∀ u ∈ enc x, u.oneCell' = true) {s x : Operand} (hgd : o.guard = none)
    (ho : o.op = .call { callee := .builtin .append, args := #[s, x], argTypes := #[t, t] }) {v : Value} {n m : Nat} (cs : List α) (hs : a.eval s = v) {A : Option Addr} {c : Nat} (xs : List α) (hx : a.eval x = .slice A m c) (hm : m = xs.length)
    (hr : Reads enc k W A xs) (hA : A = none → c = 0) (HO : W.ownsRow base e k v n (cs.flatMap enc)) (hb0 : 0 < bytes) (hbase : base ≤ W.heap.size) (hl : (n + m) * bytes ≤ 140737488355328)
    (h : ∀ v1 w1, w1.ownsRow base e k v1 (n + m) ((cs ++ xs).flatMap enc) → W.grownBy w1 v.ownBlock → wpList P ops Q rest (a.put o.dst v1) w1) : wpList P ops Q (o :: rest) a W :=
  wpList_plain hgd fun _ hK => wp_appR base k bytes z ht hinfo hz hk hke h1 ho cs hs xs hx hm hr hA HO hb0 hbase hl fun v1 w1 h2 h3 => hK _ _ (h v1 w1 h2 h3)
end
def Stop (p : Prop) (_ : p → Unit) : Prop := p
attribute [irreducible] Stop
theorem ext_of_below2 {W w1 : World} {d : Nat} {Y Z : Array Obj} (h : Below (grew W ⟨d, Y ++ Z⟩).heap.size (grew W ⟨d, Y ++ Z⟩) w1) : ∃ p : Ext, w1 = grew W ⟨p.d, Y ++ (Z ++ p.os)⟩ := by
  obtain ⟨p, hp⟩ := below_grew h
  exact ⟨p, by rw [hp, grew_grew, Array.append_assoc]⟩
theorem own_mono {w : World} {base base' : Nat} {e : TypeId} {size n : Nat} {v : Value} {xs : List Value} (h : w.ownsRow base e size v n xs) (hb : base' ≤ base) : w.ownsRow base' e size v n xs :=
  ⟨h.1, h.2.imp id fun ⟨g, cap, cur, h1, h2, h3⟩ => ⟨g, cap, cur, h1, Nat.le_trans hb h2, h3⟩⟩
theorem own_nil {w : World} {base : Nat} {e : TypeId} {size n c : Nat} {A : Option Addr} {xs : List Value} (h : w.ownsRow base e size (.slice A n c) n xs) : A = none → c = 0 := by
  intro hA
  rcases h.2 with ⟨hv, _⟩ | ⟨g, cap, cur, hv, _⟩
  · injection hv
  · injection hv with h1 _ _
    rw [hA] at h1; cases h1
theorem own_lit {α : Type} {enc : α → List Value} {k : Nat} (hke : ∀ x, (enc x).length = k) (e : TypeId) {W : World} {N n : Nat} (base : Nat) (cs : List α) {ys : Array Value} (hN : W.heap.size = N) (hb : base ≤ W.heap.size) (hn : n = cs.length) (hl : n ≤ 1000000) (hys : ys.toList = cs.flatMap enc) : (W.alloc (.cells ys e)).ownsRow base e k (.slice (some ⟨N, 0, none⟩) n n) n (cs.flatMap enc) := by
  subst hN hn
  have hs : ys.size = cs.length * k := by rw [← Array.length_toList, hys, flat_length hke]
  rw [← hys]
  exact World.ownsRow_lit W ys cs.length hb (by unfold maxLen; omega) hs
end Go.Proofs.YtjmnnkhdadoehaaGreat
