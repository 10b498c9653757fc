/- Abstract walks: literals that may be written in place. -/
import Derived.Test.YtkfmammkbmhfaaaXAbs8
import Derived.Test.YtkfmammkbmhfaaaXAppB
import Derived.Test.YtkfmammkbmhfaaaXGoods
import Derived.Test.YtkfmammkbmhfaaaProg
import Derived.Test.YtkfmammkbmhfaaaXEq
import Derived.WalkKit
import Derived.WalkSpells
import Derived.WalkLawsBesides
import Derived.KernelRfl
import Derived.Test.YtkfmammkbmhfaaaXWalkW
namespace Go.Proofs.Ytkfmammkbmhfaaa
set_option linter.unusedSimpArgs false
set_option linter.unusedVariables false
open Go Go.RowKit Go.Shelf
section
variable {P : Program} {N : Nat} {K0 : Know} {w0 : Bas} {Q : St → Prop} {ty : TypeId} {pos : String} {aft : Array Edge} {g : Option (Nat × Bool)} {tm : List (Nat × AV)} {bs : List (Nat × List AV)} {ar : List (Nat × Arr)} {dn : Nat}
theorem T.litA (q : Nat) {t e : TypeId} {len k : Nat} {parts : Array (Nat × Operand)} {xs : Cells} (hu : P.underlying t = some (.slice e)) (hv : parts.all (fun p => (St.opv ⟨tm, bs, ar⟩ p.2).isVal) = true)
    (hx : (parts.toList.map fun p => (St.ev ⟨tm, bs, ar⟩ p.2).cells.toList) = xs) (hc : litCells P e len (parts.map fun p => (p.1, St.ev ⟨tm, bs, ar⟩ p.2)).toList = some xs.flatten.toArray) (hl : xs.length = len) (hk : xs.all (fun x => x.length == k) = true) (h1 : oneCells xs = true)
    (hd : dn < N) (hfr : St.free ⟨tm, bs, ar⟩ q = true) (hq : Q ⟨(dn, .arow q) :: tm, bs, (q, ⟨e, k, xs⟩) :: ar⟩) : OpT P N K0 w0 ⟨some dn, .buildSlice t len parts, ty, pos, aft, g⟩ ⟨tm, bs, ar⟩ Q := by
  clear hx
  subst hl
  intro K n a w hs
  have e0 := evs_eq (S := ⟨tm, bs, ar⟩) (parts := parts) hs (fun p hp => rfl) hv
  unfold litCells at hc
  split at hc
  · rename_i ie hie
    split at hc
    · rename_i z hz
      split at hc
      · cases hc
      · rename_i hn
        have hn1 : ¬ xs.length * ie.size > 2 ^ 24 := fun h => hn (.inl h)
        have hn2 : ¬ xs.length * ie.size = 0 := fun h => hn (.inr h)
        have hrun := run_buildSlice w t e xs.length _ xs.flatten.toArray ie z hu hie hz hn1 hn2 hc
        unfold Oper.wp
        simp only [execOp]
        rw [e0, Sem.run_bind, hrun]
        have hk' : ∀ x ∈ xs, x.length = k := fun x hx => by simpa using List.all_eq_true.1 hk x hx
        have hll : xs.length ≤ 16777216 := by
          have : xs.length ≤ xs.length * ie.size := Nat.le_mul_of_pos_right _ (Nat.pos_of_ne_zero (fun h => hn2 (by rw [h, Nat.mul_zero])))
          have h3 : (2 : Nat) ^ 24 = 16777216 := by decide
          omega
        have hown := World.ownsRow_lit (base := w.heap.size) (e := e) (size := k) w xs.flatten.toArray xs.length (Nat.le_refl _) (by unfold maxLen; omega) (by rw [List.size_toArray]; exact flatten_len hk')
        refine ⟨K, _, _, hq, hs.freshArr ((Below.refl _ _).alloc (Nat.le_refl _) _) hd hfr (base := w.heap.size) (by simpa using hown) (Nat.le_refl _) (Arr.ok_of hk' h1)⟩
    · cases hc
  · cases hc
end
set_option maxRecDepth 100000 in
theorem litA_73_1 {N : Nat} {K0 : Know} {w0 : Bas} {Q : St → Prop} {tm : List (Nat × AV)} {bs : List (Nat × List AV)} {ar : List (Nat × Arr)} {dn : Nat} (q : Nat) {ty : TypeId} {pos : String} {aft : Array Edge} {g : Option (Nat × Bool)} {x0 : Operand} {a0 : Int} (h0 : St.opv ⟨tm, bs, ar⟩ x0 = .val (.int .i64 a0)) (hd : dn < N) (hfr : St.free ⟨tm, bs, ar⟩ q = true) (hq : Q ⟨(dn, .arow q) :: tm, bs, (q, ⟨3, 1, ([a0] : List Int).map encI⟩) :: ar⟩) :
    OpT Try.prog N K0 w0 ⟨some dn, .buildSlice 73 1 #[(0, x0)], ty, pos, aft, g⟩ ⟨tm, bs, ar⟩ Q := by
  have he0 : St.ev ⟨tm, bs, ar⟩ x0 = .int .i64 a0 := by unfold St.ev; rw [h0]
  exact T.litA q (t := 73) (e := 3) (k := 1) (xs := [[.int .i64 a0]]) (by kernel_rfl) (by simp [h0, AV.isVal]) (by simp [he0, Value.cells]) (by simp only [List.map_toArray, List.map_cons, List.map_nil, he0]; kernel_rfl) rfl rfl rfl hd hfr hq
end Go.Proofs.Ytkfmammkbmhfaaa

/- Equality of nodes; rows of numbers, written out. -/
namespace Go.Proofs.Ytkfmammkbmhfaaa
set_option linter.unusedSimpArgs false
set_option linter.unusedVariables false
open Go.RowKit
theorem eqI_ndc (d : Nat) (x0 : Int) (x1 : Int) (y0 : Int) (y1 : Int) (w : World) : (Op.equalIn (d + 2) 78 (.agg #[.int .i64 x0, .int .i64 x1]) (.agg #[.int .i64 y0, .int .i64 y1])).run Try.prog w = .ok (same (⟨x0, x1⟩ : A2) (⟨y0, y1⟩ : A2)) w := by
  have hu : Try.prog.underlying 78 = some (.array 2 3) := by kernel_rfl
  rw [Op.equalIn]
  simp only [Sem.run_bind, run_underlying hu, Result.andThen_ok, Std.Legacy.Range.forIn_eq_forIn_range', Std.Legacy.Range.size, List.range', List.forIn_cons, List.forIn_nil]
  go_simp
  unfold same
  by_cases h1 : x0 = y0 <;> by_cases h2 : x1 = y1 <;> simp [h1, h2]
attribute [local go_sem] eqI_ndc
theorem eqI_nd (d : Nat) (x0 : Int) (x1 : Int) (x2 : Int) (y0 : Int) (y1 : Int) (y2 : Int) (w : World) : (Op.equalIn (d + 4) 80 (.agg #[.int .i64 x0, .int .i64 x1, .int .i64 x2]) (.agg #[.int .i64 y0, .int .i64 y1, .int .i64 y2])).run Try.prog w = .ok (same (⟨⟨x0, x1⟩, x2⟩ : Pfx) (⟨⟨y0, y1⟩, y2⟩ : Pfx)) w := by
  have hS : Try.prog.underlying 80 = some (.struct (Try.prog.fieldsOf 80)) := by kernel_rfl
  have hp : Try.prog.stoodInHeld 80 = false := by kernel_rfl
  rw [run_equalIn_agg w (d + 3) 80 _ _ hS hp]
  simp only [Program.fieldsOf, Try.underlying80]
  go_simp
  unfold same
  first | done | (rw [Bool.eq_iff_iff]; simp) | ((repeat' split) <;> simp_all)
theorem eql_nd (x0 : Int) (x1 : Int) (x2 : Int) (y0 : Int) (y1 : Int) (y2 : Int) (w : World) : (binOp .eql 80 (.agg #[.int .i64 x0, .int .i64 x1, .int .i64 x2]) (.agg #[.int .i64 y0, .int .i64 y1, .int .i64 y2])).run Try.prog w = .ok (.bool (same (⟨⟨x0, x1⟩, x2⟩ : Pfx) (⟨⟨y0, y1⟩, y2⟩ : Pfx))) w := by
  rw [run_eql_struct, show (10000 : Nat) = 9996 + 4 from rfl, eqI_nd]; rfl
theorem eqg_nd : Try.prog.eqGuardType Try.prog.depth 80 = false := by kernel_rfl
end Go.Proofs.Ytkfmammkbmhfaaa

/- What ref04.Merge does. -/
namespace Go.Proofs.Ytkfmammkbmhfaaa
set_option linter.unusedSimpArgs false
set_option linter.unusedVariables false
open Go Go.RowKit Go.Shelf
theorem Good.valsRow {P : Program} {f : FuncId} {β : Type} {enc' : β → List Value} {k' e : Nat} {ys : List β} (hk : ∀ y, (enc' y).length = k') (h1 : ∀ y, ∀ u ∈ enc' y, u.oneCell' = true) {args : List Value} {As : List AV} (hA : As = args.map AV.val)
    (h : ∀ w, Calls P f args.toArray w fun e' w' => ∃ v, e' = .returned v ∧ w'.ownsRow w.heap.size e k' v ys.length (ys.flatMap enc') ∧ Below w.heap.size w w') : Good P f As (.row 0 e k' (ys.map enc')) := by
  subst hA
  intro K w cargs hok hlen hrep
  have e1 : cargs = args := by
    apply List.ext_getElem?
    intro i
    by_cases hi : i < args.length
    · have hi' : i < cargs.length := by simp at hlen; omega
      have := hrep i (.val args[i]) cargs[i] (by simp [List.getElem?_eq_getElem hi]) (by simp [List.getElem?_eq_getElem hi'])
      rw [List.getElem?_eq_getElem hi, List.getElem?_eq_getElem hi']
      exact congrArg some this
    · have hlen' : cargs.length = args.length := by simpa using hlen
      rw [List.getElem?_eq_none (by omega), List.getElem?_eq_none (by omega)]
  subst e1
  refine (h w).mono ?_
  rintro e w' ⟨v, rfl, hown, hb⟩
  obtain ⟨K', p1, p2, p3, p4⟩ := own_res (xs := ys.map enc') hok hb (by rw [List.length_map, ← List.flatMap_def]; exact hown) (fun x hx => by obtain ⟨y, _, rfl⟩ := List.mem_map.1 hx; exact hk y) (List.all_eq_true.2 fun x hx => by obtain ⟨y, _, rfl⟩ := List.mem_map.1 hx; exact List.all_eq_true.2 (h1 y)) 0
  exact ⟨v, K', rfl, hb, p1, p2, p3, p4⟩
def bitsL (f : Nat → Bool) : List Bool := (List.range 128).map f
theorem bitsL_len (f : Nat → Bool) : (bitsL f).length = 128 := by simp [bitsL]
theorem bitsL_get (f : Nat → Bool) {k : Nat} (hk : k < 128) (h : k < (bitsL f).length) : (bitsL f)[k] = f k := by simp [bitsL]
theorem lenB (x : Bool) : (encB x).length = 1 := rfl
theorem oneB (x : Bool) : ∀ u ∈ encB x, u.oneCell' = true := by
  intro u hu
  simp only [encB, List.mem_singleton] at hu
  subst hu; rfl
theorem flatB : ∀ l : List Bool, l.flatMap encB = l.map Value.bool
  | [] => rfl
  | x :: l => by rw [List.flatMap_cons, flatB l]; rfl
theorem g_Bits (a0 a1 : Int) (ha : A2.ok ⟨a0, a1⟩) : Good Try.prog 46 [.val (.agg #[.int .u64 a0, .int .u64 a1])] (.row 0 4 1 ((bitsL (abit ⟨a0, a1⟩)).map encB)) :=
  Good.valsRow (args := [.agg #[.int .u64 a0, .int .u64 a1]]) lenB oneB rfl fun w => (c_Bits a0 a1 ha w).mono fun e w' ⟨b, h1, h2, ⟨c, h3, h4, h5⟩, h6⟩ => by
    refine ⟨_, h1, ⟨by rw [flatB, List.length_map, bitsL_len], .inr ⟨b, 128, c, by rw [bitsL_len], h2, h3, by rw [bitsL_len]; exact Nat.le_refl _, by unfold maxLen; omega, by omega, ?_⟩⟩, h6⟩
    rw [bitsL_len, List.take_of_length_le (by simp; omega), flatB]
    apply List.ext_getElem?
    intro i
    by_cases hi : i < 128
    · rw [Array.getElem?_toList, h5 i hi]
      simp [bitsL, hi]
    · rw [List.getElem?_eq_none (by simp; omega), List.getElem?_eq_none (by simp [bitsL]; omega)]
/-! ### ref04.Merge -/
attribute [local irreducible] OpH OpT LT CT HT Good
end Go.Proofs.Ytkfmammkbmhfaaa
