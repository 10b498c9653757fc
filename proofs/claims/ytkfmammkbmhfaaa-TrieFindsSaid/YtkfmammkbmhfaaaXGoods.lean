/- Abstract contracts of the calls that are known. -/
import Derived.Test.YtkfmammkbmhfaaaXAbs3
import Derived.Test.YtkfmammkbmhfaaaXWalkA
import Derived.Test.YtkfmammkbmhfaaaXWalkE
import Derived.Test.YtkfmammkbmhfaaaXWalkC
import Derived.Test.YtkfmammkbmhfaaaXWalkW
import Derived.Test.YtkfmammkbmhfaaaXPureA
namespace Go.Proofs.Ytkfmammkbmhfaaa
set_option linter.unusedSimpArgs false
set_option linter.unusedVariables false
open Go Go.RowKit Go.Shelf
set_option maxRecDepth 100000 in
theorem lit_43_1 {N : Nat} {K0 : Know} {w0 : Bas} {S : St} {d : Option Nat} {ty : TypeId} {pos : String} {aft : Array Edge} {g : Option (Nat × Bool)} {x0 : Operand} {a0_0 : Int} {a0_1 : Int} {a0_2 : Int} {a0_3 : Int} (h0 : S.opv x0 = .val (Value.agg #[.int .u64 a0_0, .int .u64 a0_1, .int .i64 a0_2, .int .i64 a0_3])) :
    OpH Try.prog N K0 w0 ⟨d, .buildSlice 43 1 #[(0, x0)], ty, pos, aft, g⟩ S (.full 4 (([(⟨⟨⟨a0_0, a0_1⟩, a0_2⟩, a0_3⟩ : Rte)] : List Rte).map encR)) := by
  have he0 : S.ev x0 = Value.agg #[.int .u64 a0_0, .int .u64 a0_1, .int .i64 a0_2, .int .i64 a0_3] := by unfold St.ev; rw [h0]
  exact OpH.lit (t := 43) (e := 50) (k := 4) (xs := [[.int .u64 a0_0, .int .u64 a0_1, .int .i64 a0_2, .int .i64 a0_3]]) (by kernel_rfl) (by simp [h0, AV.isVal]) (by simp [he0, Value.cells]) (by simp only [List.map_toArray, List.map_cons, List.map_nil, he0]; kernel_rfl) rfl rfl rfl
set_option maxRecDepth 100000 in
theorem lit_73_1 {N : Nat} {K0 : Know} {w0 : Bas} {S : St} {d : Option Nat} {ty : TypeId} {pos : String} {aft : Array Edge} {g : Option (Nat × Bool)} {x0 : Operand} {a0 : Int} (h0 : S.opv x0 = .val (.int .i64 a0)) :
    OpH Try.prog N K0 w0 ⟨d, .buildSlice 73 1 #[(0, x0)], ty, pos, aft, g⟩ S (.full 1 (([a0] : List Int).map encI)) := by
  have he0 : S.ev x0 = .int .i64 a0 := by unfold St.ev; rw [h0]
  exact OpH.lit (t := 73) (e := 3) (k := 1) (xs := [[.int .i64 a0]]) (by kernel_rfl) (by simp [h0, AV.isVal]) (by simp [he0, Value.cells]) (by simp only [List.map_toArray, List.map_cons, List.map_nil, he0]; kernel_rfl) rfl rfl rfl
set_option maxRecDepth 100000 in
theorem build_31_0 {N : Nat} {K0 : Know} {w0 : Bas} {S : St} {d : Option Nat} {ty : TypeId} {pos : String} {aft : Array Edge} {g : Option (Nat × Bool)} {x0 : Operand} {c0_0 : Int} (h0 : S.opv x0 = .val ((.int .u64 c0_0 : Value))) :
    OpH Try.prog N K0 w0 ⟨d, .build 31 #[(0, x0)], ty, pos, aft, g⟩ S (.val (.agg #[.int .u64 c0_0, .int .u64 0])) := by
  have he0 : S.ev x0 = (.int .u64 c0_0 : Value) := by unfold St.ev; rw [h0]
  exact OpH.build (t := 31) (by simp [h0,  AV.isVal]) (by simp only [List.map_toArray, List.map_cons, List.map_nil, he0]; kernel_rfl)
set_option maxRecDepth 100000 in
theorem build_35_0_1 {N : Nat} {K0 : Know} {w0 : Bas} {S : St} {d : Option Nat} {ty : TypeId} {pos : String} {aft : Array Edge} {g : Option (Nat × Bool)} {x0 x1 : Operand} {c0_0 : Int} {c0_1 : Int} {c0_2 : Int} {c1_0 : Int} (h0 : S.opv x0 = .val (Value.agg #[.int .u64 c0_0, .int .u64 c0_1, .int .i64 c0_2])) (h1 : S.opv x1 = .val ((.int .i64 c1_0 : Value))) :
    OpH Try.prog N K0 w0 ⟨d, .build 35 #[(0, x0), (1, x1)], ty, pos, aft, g⟩ S (.val (.agg #[.int .u64 c0_0, .int .u64 c0_1, .int .i64 c0_2, .int .i64 c1_0])) := by
  have he0 : S.ev x0 = Value.agg #[.int .u64 c0_0, .int .u64 c0_1, .int .i64 c0_2] := by unfold St.ev; rw [h0]
  have he1 : S.ev x1 = (.int .i64 c1_0 : Value) := by unfold St.ev; rw [h1]
  exact OpH.build (t := 35) (by simp [h0, h1,  AV.isVal]) (by simp only [List.map_toArray, List.map_cons, List.map_nil, he0, he1]; kernel_rfl)
set_option maxRecDepth 100000 in
theorem build_35_ {N : Nat} {K0 : Know} {w0 : Bas} {S : St} {d : Option Nat} {ty : TypeId} {pos : String} {aft : Array Edge} {g : Option (Nat × Bool)}    :
    OpH Try.prog N K0 w0 ⟨d, .build 35 #[], ty, pos, aft, g⟩ S (.val (.agg #[.int .u64 0, .int .u64 0, .int .i64 0, .int .i64 0])) := by
  skip
  exact OpH.build (t := 35) (by simp [ AV.isVal]) (by simp only [List.map_toArray, List.map_cons, List.map_nil, ]; kernel_rfl)
set_option maxRecDepth 100000 in
theorem build_31_ {N : Nat} {K0 : Know} {w0 : Bas} {S : St} {d : Option Nat} {ty : TypeId} {pos : String} {aft : Array Edge} {g : Option (Nat × Bool)}    :
    OpH Try.prog N K0 w0 ⟨d, .build 31 #[], ty, pos, aft, g⟩ S (.val (.agg #[.int .u64 0, .int .u64 0])) := by
  skip
  exact OpH.build (t := 31) (by simp [ AV.isVal]) (by simp only [List.map_toArray, List.map_cons, List.map_nil, ]; kernel_rfl)
set_option maxRecDepth 100000 in
theorem build_89_0_1 {N : Nat} {K0 : Know} {w0 : Bas} {S : St} {d : Option Nat} {ty : TypeId} {pos : String} {aft : Array Edge} {g : Option (Nat × Bool)} {x0 x1 : Operand} {c0_0 : Int} {c1_0 : Int} {c1_1 : Int} {c1_2 : Int} {c1_3 : Int} (h0 : S.opv x0 = .val ((.int .i64 c0_0 : Value))) (h1 : S.opv x1 = .val (Value.agg #[.int .u64 c1_0, .int .u64 c1_1, .int .i64 c1_2, .int .i64 c1_3])) :
    OpH Try.prog N K0 w0 ⟨d, .build 89 #[(0, x0), (1, x1)], ty, pos, aft, g⟩ S (.val (.agg #[.int .i64 c0_0, .int .u64 c1_0, .int .u64 c1_1, .int .i64 c1_2, .int .i64 c1_3])) := by
  have he0 : S.ev x0 = (.int .i64 c0_0 : Value) := by unfold St.ev; rw [h0]
  have he1 : S.ev x1 = Value.agg #[.int .u64 c1_0, .int .u64 c1_1, .int .i64 c1_2, .int .i64 c1_3] := by unfold St.ev; rw [h1]
  exact OpH.build (t := 89) (by simp [h0, h1,  AV.isVal]) (by simp only [List.map_toArray, List.map_cons, List.map_nil, he0, he1]; kernel_rfl)
set_option maxRecDepth 100000 in
theorem build_50_ {N : Nat} {K0 : Know} {w0 : Bas} {S : St} {d : Option Nat} {ty : TypeId} {pos : String} {aft : Array Edge} {g : Option (Nat × Bool)}    :
    OpH Try.prog N K0 w0 ⟨d, .build 50 #[], ty, pos, aft, g⟩ S (.val (.agg #[.int .u64 0, .int .u64 0, .int .i64 0, .int .i64 0])) := by
  skip
  exact OpH.build (t := 50) (by simp [ AV.isVal]) (by simp only [List.map_toArray, List.map_cons, List.map_nil, ]; kernel_rfl)
set_option maxRecDepth 100000 in
theorem build_50_0_1 {N : Nat} {K0 : Know} {w0 : Bas} {S : St} {d : Option Nat} {ty : TypeId} {pos : String} {aft : Array Edge} {g : Option (Nat × Bool)} {x0 x1 : Operand} {c0_0 : Int} {c0_1 : Int} {c0_2 : Int} {c1_0 : Int} (h0 : S.opv x0 = .val (Value.agg #[.int .u64 c0_0, .int .u64 c0_1, .int .i64 c0_2])) (h1 : S.opv x1 = .val ((.int .i64 c1_0 : Value))) :
    OpH Try.prog N K0 w0 ⟨d, .build 50 #[(0, x0), (1, x1)], ty, pos, aft, g⟩ S (.val (.agg #[.int .u64 c0_0, .int .u64 c0_1, .int .i64 c0_2, .int .i64 c1_0])) := by
  have he0 : S.ev x0 = Value.agg #[.int .u64 c0_0, .int .u64 c0_1, .int .i64 c0_2] := by unfold St.ev; rw [h0]
  have he1 : S.ev x1 = (.int .i64 c1_0 : Value) := by unfold St.ev; rw [h1]
  exact OpH.build (t := 50) (by simp [h0, h1,  AV.isVal]) (by simp only [List.map_toArray, List.map_cons, List.map_nil, he0, he1]; kernel_rfl)
set_option maxRecDepth 100000 in
theorem build_48_0_1 {N : Nat} {K0 : Know} {w0 : Bas} {S : St} {d : Option Nat} {ty : TypeId} {pos : String} {aft : Array Edge} {g : Option (Nat × Bool)} {x0 x1 : Operand} {c0_0 : Int} {c0_1 : Int} {c1_0 : Int} (h0 : S.opv x0 = .val (Value.agg #[.int .u64 c0_0, .int .u64 c0_1])) (h1 : S.opv x1 = .val ((.int .i64 c1_0 : Value))) :
    OpH Try.prog N K0 w0 ⟨d, .build 48 #[(0, x0), (1, x1)], ty, pos, aft, g⟩ S (.val (.agg #[.int .u64 c0_0, .int .u64 c0_1, .int .i64 c1_0])) := by
  have he0 : S.ev x0 = Value.agg #[.int .u64 c0_0, .int .u64 c0_1] := by unfold St.ev; rw [h0]
  have he1 : S.ev x1 = (.int .i64 c1_0 : Value) := by unfold St.ev; rw [h1]
  exact OpH.build (t := 48) (by simp [h0, h1,  AV.isVal]) (by simp only [List.map_toArray, List.map_cons, List.map_nil, he0, he1]; kernel_rfl)
set_option maxRecDepth 100000 in
theorem build_80_ {N : Nat} {K0 : Know} {w0 : Bas} {S : St} {d : Option Nat} {ty : TypeId} {pos : String} {aft : Array Edge} {g : Option (Nat × Bool)}    :
    OpH Try.prog N K0 w0 ⟨d, .build 80 #[], ty, pos, aft, g⟩ S (.val (.agg #[.int .i64 0, .int .i64 0, .int .i64 0])) := by
  skip
  exact OpH.build (t := 80) (by simp [ AV.isVal]) (by simp only [List.map_toArray, List.map_cons, List.map_nil, ]; kernel_rfl)
theorem g_And (a0 a1 : Int) (b0 b1 : Int) : Good Try.prog 63 [.val (.agg #[.int .u64 a0, .int .u64 a1]), .val (.agg #[.int .u64 b0, .int .u64 b1])] (.val (.agg #[.int .u64 (aAnd (⟨a0, a1⟩ : A2) (⟨b0, b1⟩ : A2)).x, .int .u64 (aAnd (⟨a0, a1⟩ : A2) (⟨b0, b1⟩ : A2)).y])) := Good.vals (args := [.agg #[.int .u64 a0, .int .u64 a1], .agg #[.int .u64 b0, .int .u64 b1]]) rfl fun w => c_And a0 a1 b0 b1 w
theorem g_near (n : Int) : Good Try.prog 58 [.val (.int .i64 n)] (.val (.int .i64 (clamp n))) := Good.vals (args := [.int .i64 n]) rfl fun w => c_near n w
theorem g_pMake (a0 a1 : Int) (n : Int) : Good Try.prog 40 [.val (.agg #[.int .u64 a0, .int .u64 a1]), .val (.int .i64 n)] (.val (.agg #[.int .u64 (pMake (⟨a0, a1⟩ : A2) n).a.x, .int .u64 (pMake (⟨a0, a1⟩ : A2) n).a.y, .int .i64 (pMake (⟨a0, a1⟩ : A2) n).len])) := Good.vals (args := [.agg #[.int .u64 a0, .int .u64 a1], .int .i64 n]) rfl fun w => c_pMake a0 a1 n w
end Go.Proofs.Ytkfmammkbmhfaaa
namespace Go.Proofs.Ytkfmammkbmhfaaa
set_option linter.unusedSimpArgs false
set_option linter.unusedVariables false
open Go Go.RowKit Go.Shelf
end Go.Proofs.Ytkfmammkbmhfaaa
namespace Go.Proofs.Ytkfmammkbmhfaaa
set_option linter.unusedSimpArgs false
set_option linter.unusedVariables false
open Go Go.RowKit Go.Shelf
end Go.Proofs.Ytkfmammkbmhfaaa

/- What OnesCount64, Ones and word.Merge do. -/
namespace Go.Proofs.Ytkfmammkbmhfaaa
set_option linter.unusedSimpArgs false
set_option linter.unusedVariables false
open Go Go.RowKit Go.Shelf
def s1 (x : Int) : Int := IntKind.u64.wrap (bits .and .u64 (x / 2) 6148914691236517205 + bits .and .u64 x 6148914691236517205)
def s2 (x : Int) : Int := IntKind.u64.wrap (bits .and .u64 (x / 4) 3689348814741910323 + bits .and .u64 x 3689348814741910323)
def q1 (x : Nat) : Nat := (x / 2 &&& 6148914691236517205) + (x &&& 6148914691236517205)
def q2 (x : Nat) : Nat := (x / 4 &&& 3689348814741910323) + (x &&& 3689348814741910323)
def q3 (x : Nat) : Nat := (x / 16 + x) &&& 1085102592571150095
theorem wrapN {a : Nat} (h : a < 18446744073709551616) : IntKind.u64.wrap (a : Int) = (a : Int) := by
  show (a : Int) % 18446744073709551616 = a
  omega
theorem andN {a m : Nat} (h : a < 18446744073709551616) (hm : m < 18446744073709551616) : bits .and .u64 (a : Int) (m : Int) = ((a &&& m : Nat) : Int) := bits_and_u64_nat a m h hm
theorem i1 {n : Nat} (hn : n < 18446744073709551616) : s1 n = (q1 n : Nat) ∧ q1 n ≤ 12297829382473034410 := by
  have a1 := Nat.and_le_right (n := n / 2) (m := 6148914691236517205)
  have a2 := Nat.and_le_right (n := n) (m := 6148914691236517205)
  have hb : q1 n ≤ 12297829382473034410 := by unfold q1; omega
  refine ⟨?_, hb⟩
  unfold s1
  have u1 : bits .and .u64 ((n : Int) / 2) 6148914691236517205 = ((n / 2 &&& 6148914691236517205 : Nat) : Int) := andN (a := n / 2) (m := 6148914691236517205) (by omega) (by decide)
  have u2 : bits .and .u64 (n : Int) 6148914691236517205 = ((n &&& 6148914691236517205 : Nat) : Int) := andN (a := n) (m := 6148914691236517205) hn (by decide)
  rw [u1, u2, ← Int.natCast_add]
  exact wrapN (a := q1 n) (by omega)
/-! ### word.Merge -/
attribute [local irreducible] OpH OpT LT CT HT Good
end Go.Proofs.Ytkfmammkbmhfaaa
