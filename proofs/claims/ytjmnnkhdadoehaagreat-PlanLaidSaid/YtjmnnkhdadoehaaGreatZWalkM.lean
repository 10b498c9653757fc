/- What ref04.Merge does. -/
import Derived.Test.YtjmnnkhdadoehaaGreatZGoods
import Derived.Test.YtjmnnkhdadoehaaGreatZAbs8
import Derived.Test.YtjmnnkhdadoehaaGreatZWalkW
namespace Go.Proofs.YtjmnnkhdadoehaaGreat
set_option linter.unusedSimpArgs false
set_option linter.unusedVariables false
open Go Go.RowKit Go.Shelf
theorem Good.valsRow {P : Program} {f : FuncId} {β : Type} {enc' : β → List Value} {k' e : Nat} {ys : List β} (hk : ∀ y, (enc' y).length = k') (h1 : ∀ y, ∀ u ∈ enc' y, u.oneCell' = true) {args : List Value} {As : List AV} (hA : As = args.map AV.val)
    (h : ∀ w, Calls P f args.toArray w fun e' w' => ∃ v, e' = .returned v ∧ w'.ownsRow w.heap.size e k' v ys.length (ys.flatMap enc') ∧ Below w.heap.size w w') : Good P f As (.row 0 e k' (ys.map enc')) := by
  subst hA
  intro K w cargs hok hlen hrep
  have e1 : cargs = args := by
    apply List.ext_getElem?
    intro i
    by_cases hi : i < args.length
    · have hi' : i < cargs.length := by simp at hlen; omega
      have := hrep i (.val args[i]) cargs[i] (by simp [List.getElem?_eq_getElem hi]) (by simp [List.getElem?_eq_getElem hi'])
      rw [List.getElem?_eq_getElem hi, List.getElem?_eq_getElem hi']
      exact congrArg some this
    · have hlen' : cargs.length = args.length := by simpa using hlen
      rw [List.getElem?_eq_none (by omega), List.getElem?_eq_none (by omega)]
  subst e1
  refine (h w).mono ?_
  rintro e w' ⟨v, rfl, hown, hb⟩
  obtain ⟨K', p1, p2, p3, p4⟩ := own_res (xs := ys.map enc') hok hb (by rw [List.length_map, ← List.flatMap_def]; exact hown) (fun x hx => by obtain ⟨y, _, rfl⟩ := List.mem_map.1 hx; exact hk y) (List.all_eq_true.2 fun x hx => by obtain ⟨y, _, rfl⟩ := List.mem_map.1 hx; exact List.all_eq_true.2 (h1 y)) 0
  exact ⟨v, K', rfl, hb, p1, p2, p3, p4⟩
def bitsL (f : Nat → Bool) : List Bool := (List.range 128).map f
theorem bitsL_len (f : Nat → Bool) : (bitsL f).length = 128 := by simp [bitsL]
theorem bitsL_get (f : Nat → Bool) {k : Nat} (hk : k < 128) (h : k < (bitsL f).length) : (bitsL f)[k] = f k := by simp [bitsL]
def lastTo (p : Nat → Bool) : Nat → Int
  | 0 => -1
  | k + 1 => if p k = true then (k : Int) else lastTo p k
theorem lastTo_bound (p : Nat → Bool) : ∀ k, -1 ≤ lastTo p k ∧ lastTo p k < k
  | 0 => by simp [lastTo]
  | k + 1 => by
    have := lastTo_bound p k
    simp only [lastTo]
    split <;> omega
theorem lastTo_one {p : Nat → Bool} : ∀ n, cntTo p n = 1 → ∃ k, k < n ∧ lastTo p n = (k : Int) ∧ p k = true ∧ ∀ i, i < n → i ≠ k → p i = false
  | 0, h => by simp [cntTo] at h
  | n + 1, h => by
    simp only [cntTo] at h
    cases hp : p n with
    | true =>
      rw [hp] at h
      have := (cntTo_zero n).1 (by simpa using h)
      exact ⟨n, Nat.lt_succ_self _, by simp [lastTo, hp], hp, fun i hi hne => this i (by omega)⟩
    | false =>
      rw [hp] at h
      obtain ⟨k, h1, h2, h3, h4⟩ := lastTo_one n (by simpa using h)
      refine ⟨k, by omega, by simp [lastTo, hp, h2], h3, fun i hi hne => ?_⟩
      by_cases e : i = n
      · subst e; exact hp
      · exact h4 i (by omega) hne
theorem lenB (x : Bool) : (encB x).length = 1 := rfl
theorem oneB (x : Bool) : ∀ u ∈ encB x, u.oneCell' = true := by
  intro u hu
  simp only [encB, List.mem_singleton] at hu
  subst hu; rfl
theorem flatB : ∀ l : List Bool, l.flatMap encB = l.map Value.bool
  | [] => rfl
  | x :: l => by rw [List.flatMap_cons, flatB l]; rfl
theorem g_Bits (a0 a1 : Int) (ha : A2.ok ⟨a0, a1⟩) : Good Tryz.prog 121 [.val (.agg #[.int .u64 a0, .int .u64 a1])] (.row 0 4 1 ((bitsL (abit ⟨a0, a1⟩)).map encB)) :=
  Good.valsRow (args := [.agg #[.int .u64 a0, .int .u64 a1]]) lenB oneB rfl fun w => (c_Bits a0 a1 ha w).mono fun e w' ⟨b, h1, h2, ⟨c, h3, h4, h5⟩, h6⟩ => by
    refine ⟨_, h1, ⟨by rw [flatB, List.length_map, bitsL_len], .inr ⟨b, 128, c, by rw [bitsL_len], h2, h3, by rw [bitsL_len]; exact Nat.le_refl _, by unfold maxLen; omega, by omega, ?_⟩⟩, h6⟩
    rw [bitsL_len, List.take_of_length_le (by simp; omega), flatB]
    apply List.ext_getElem?
    intro i
    by_cases hi : i < 128
    · rw [Array.getElem?_toList, h5 i hi]
      simp [bitsL, hi]
    · rw [List.getElem?_eq_none (by simp; omega), List.getElem?_eq_none (by simp [bitsL]; omega)]
/-! ### ref04.Merge -/
def mDif (x y : W2) (i : Nat) : Bool := abit x.m i && (abit x.v i != abit y.v i)
def rMergeIs (x y : W2) : Bool := decide (x.m = y.m) && decide (cntTo (mDif x y) 128 = 1)
attribute [local irreducible] OpH OpT LT CT HT Good
end Go.Proofs.YtjmnnkhdadoehaaGreat
