/- Abstract contracts of the calls that are known. -/
import Derived.Test.YtkfmammkbmhfaaaYAbs3
import Derived.Test.YtkfmammkbmhfaaaYWalkA
import Derived.Test.YtkfmammkbmhfaaaYWalkE
import Derived.Test.YtkfmammkbmhfaaaYWalkC
import Derived.Test.YtkfmammkbmhfaaaYWalkW
namespace Go.Proofs.Ytkfmammkbmhfaaa
set_option linter.unusedSimpArgs false
set_option linter.unusedVariables false
open Go Go.RowKit Go.Shelf
set_option maxRecDepth 100000 in
theorem build_31_0 {N : Nat} {K0 : Know} {w0 : Bas} {S : St} {d : Option Nat} {ty : TypeId} {pos : String} {aft : Array Edge} {g : Option (Nat × Bool)} {x0 : Operand} {c0_0 : Int} (h0 : S.opv x0 = .val ((.int .u64 c0_0 : Value))) :
    OpH Try.prog N K0 w0 ⟨d, .build 31 #[(0, x0)], ty, pos, aft, g⟩ S (.val (.agg #[.int .u64 c0_0, .int .u64 0])) := by
  have he0 : S.ev x0 = (.int .u64 c0_0 : Value) := by unfold St.ev; rw [h0]
  exact OpH.build (t := 31) (by simp [h0,  AV.isVal]) (by simp only [List.map_toArray, List.map_cons, List.map_nil, he0]; kernel_rfl)
set_option maxRecDepth 100000 in
theorem build_33_0_1 {N : Nat} {K0 : Know} {w0 : Bas} {S : St} {d : Option Nat} {ty : TypeId} {pos : String} {aft : Array Edge} {g : Option (Nat × Bool)} {x0 x1 : Operand} {c0_0 : Int} {c0_1 : Int} {c1_0 : Int} (h0 : S.opv x0 = .val (Value.agg #[.int .u64 c0_0, .int .u64 c0_1])) (h1 : S.opv x1 = .val ((.int .i64 c1_0 : Value))) :
    OpH Try.prog N K0 w0 ⟨d, .build 33 #[(0, x0), (1, x1)], ty, pos, aft, g⟩ S (.val (.agg #[.int .u64 c0_0, .int .u64 c0_1, .int .i64 c1_0])) := by
  have he0 : S.ev x0 = Value.agg #[.int .u64 c0_0, .int .u64 c0_1] := by unfold St.ev; rw [h0]
  have he1 : S.ev x1 = (.int .i64 c1_0 : Value) := by unfold St.ev; rw [h1]
  exact OpH.build (t := 33) (by simp [h0, h1,  AV.isVal]) (by simp only [List.map_toArray, List.map_cons, List.map_nil, he0, he1]; kernel_rfl)
set_option maxRecDepth 100000 in
theorem build_35_0_1 {N : Nat} {K0 : Know} {w0 : Bas} {S : St} {d : Option Nat} {ty : TypeId} {pos : String} {aft : Array Edge} {g : Option (Nat × Bool)} {x0 x1 : Operand} {c0_0 : Int} {c0_1 : Int} {c0_2 : Int} {c1_0 : Int} (h0 : S.opv x0 = .val (Value.agg #[.int .u64 c0_0, .int .u64 c0_1, .int .i64 c0_2])) (h1 : S.opv x1 = .val ((.int .i64 c1_0 : Value))) :
    OpH Try.prog N K0 w0 ⟨d, .build 35 #[(0, x0), (1, x1)], ty, pos, aft, g⟩ S (.val (.agg #[.int .u64 c0_0, .int .u64 c0_1, .int .i64 c0_2, .int .i64 c1_0])) := by
  have he0 : S.ev x0 = Value.agg #[.int .u64 c0_0, .int .u64 c0_1, .int .i64 c0_2] := by unfold St.ev; rw [h0]
  have he1 : S.ev x1 = (.int .i64 c1_0 : Value) := by unfold St.ev; rw [h1]
  exact OpH.build (t := 35) (by simp [h0, h1,  AV.isVal]) (by simp only [List.map_toArray, List.map_cons, List.map_nil, he0, he1]; kernel_rfl)
set_option maxRecDepth 100000 in
theorem build_33_ {N : Nat} {K0 : Know} {w0 : Bas} {S : St} {d : Option Nat} {ty : TypeId} {pos : String} {aft : Array Edge} {g : Option (Nat × Bool)}    :
    OpH Try.prog N K0 w0 ⟨d, .build 33 #[], ty, pos, aft, g⟩ S (.val (.agg #[.int .u64 0, .int .u64 0, .int .i64 0])) := by
  skip
  exact OpH.build (t := 33) (by simp [ AV.isVal]) (by simp only [List.map_toArray, List.map_cons, List.map_nil, ]; kernel_rfl)
set_option maxRecDepth 100000 in
theorem build_35_ {N : Nat} {K0 : Know} {w0 : Bas} {S : St} {d : Option Nat} {ty : TypeId} {pos : String} {aft : Array Edge} {g : Option (Nat × Bool)}    :
    OpH Try.prog N K0 w0 ⟨d, .build 35 #[], ty, pos, aft, g⟩ S (.val (.agg #[.int .u64 0, .int .u64 0, .int .i64 0, .int .i64 0])) := by
  skip
  exact OpH.build (t := 35) (by simp [ AV.isVal]) (by simp only [List.map_toArray, List.map_cons, List.map_nil, ]; kernel_rfl)
set_option maxRecDepth 100000 in
theorem build_31_ {N : Nat} {K0 : Know} {w0 : Bas} {S : St} {d : Option Nat} {ty : TypeId} {pos : String} {aft : Array Edge} {g : Option (Nat × Bool)}    :
    OpH Try.prog N K0 w0 ⟨d, .build 31 #[], ty, pos, aft, g⟩ S (.val (.agg #[.int .u64 0, .int .u64 0])) := by
  skip
  exact OpH.build (t := 31) (by simp [ AV.isVal]) (by simp only [List.map_toArray, List.map_cons, List.map_nil, ]; kernel_rfl)
set_option maxRecDepth 100000 in
theorem build_80_ {N : Nat} {K0 : Know} {w0 : Bas} {S : St} {d : Option Nat} {ty : TypeId} {pos : String} {aft : Array Edge} {g : Option (Nat × Bool)}    :
    OpH Try.prog N K0 w0 ⟨d, .build 80 #[], ty, pos, aft, g⟩ S (.val (.agg #[.int .i64 0, .int .i64 0, .int .i64 0])) := by
  skip
  exact OpH.build (t := 80) (by simp [ AV.isVal]) (by simp only [List.map_toArray, List.map_cons, List.map_nil, ]; kernel_rfl)
theorem g_And (a0 a1 : Int) (b0 b1 : Int) : Good Try.prog 63 [.val (.agg #[.int .u64 a0, .int .u64 a1]), .val (.agg #[.int .u64 b0, .int .u64 b1])] (.val (.agg #[.int .u64 (aAnd (⟨a0, a1⟩ : A2) (⟨b0, b1⟩ : A2)).x, .int .u64 (aAnd (⟨a0, a1⟩ : A2) (⟨b0, b1⟩ : A2)).y])) := Good.vals (args := [.agg #[.int .u64 a0, .int .u64 a1], .agg #[.int .u64 b0, .int .u64 b1]]) rfl fun w => c_And a0 a1 b0 b1 w
theorem g_pMake (a0 a1 : Int) (n : Int) : Good Try.prog 40 [.val (.agg #[.int .u64 a0, .int .u64 a1]), .val (.int .i64 n)] (.val (.agg #[.int .u64 (pMake (⟨a0, a1⟩ : A2) n).a.x, .int .u64 (pMake (⟨a0, a1⟩ : A2) n).a.y, .int .i64 (pMake (⟨a0, a1⟩ : A2) n).len])) := Good.vals (args := [.agg #[.int .u64 a0, .int .u64 a1], .int .i64 n]) rfl fun w => c_pMake a0 a1 n w
end Go.Proofs.Ytkfmammkbmhfaaa
namespace Go.Proofs.Ytkfmammkbmhfaaa
set_option linter.unusedSimpArgs false
set_option linter.unusedVariables false
open Go Go.RowKit Go.Shelf
end Go.Proofs.Ytkfmammkbmhfaaa
namespace Go.Proofs.Ytkfmammkbmhfaaa
set_option linter.unusedSimpArgs false
set_option linter.unusedVariables false
open Go Go.RowKit Go.Shelf
end Go.Proofs.Ytkfmammkbmhfaaa
