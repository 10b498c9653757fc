/- Abstract contracts of the calls that are known. -/
import Derived.Test.YtjmnnkhdadoehaaGreatZAbs3
import Derived.Test.YtjmnnkhdadoehaaGreatZWalkA
import Derived.Test.YtjmnnkhdadoehaaGreatZWalkE
import Derived.Test.YtjmnnkhdadoehaaGreatZWalkF
import Derived.Test.YtjmnnkhdadoehaaGreatZWalkR
import Derived.Test.YtjmnnkhdadoehaaGreatZWalkT
import Derived.Test.YtjmnnkhdadoehaaGreatZWalkW
import Derived.Test.YtjmnnkhdadoehaaGreatZPureA
namespace Go.Proofs.YtjmnnkhdadoehaaGreat
set_option linter.unusedSimpArgs false
set_option linter.unusedVariables false
open Go Go.RowKit Go.Shelf
theorem lenE (x : Ent) : (encE x).length = 6 := rfl
theorem posE (x : Ent) : encE x ≠ [] := by simp [encE]
theorem oneE (x : Ent) : ∀ u ∈ encE x, u.oneCell' = true := by
  intro u hu
  simp only [encE, List.mem_cons, List.not_mem_nil, or_false] at hu
  rcases hu with rfl | rfl | rfl | rfl | rfl | rfl <;> rfl
set_option maxRecDepth 100000 in
theorem lit_37_1 {N : Nat} {K0 : Know} {w0 : Bas} {S : St} {d : Option Nat} {ty : TypeId} {pos : String} {aft : Array Edge} {g : Option (Nat × Bool)} {x0 : Operand} {a0_0 : Int} {a0_1 : Bool} {a0_2 : Int} {a0_3 : Int} {a0_4 : Int} {a0_5 : Int} {a0_6 : Int} {a0_7 : Int} (h0 : S.opv x0 = .val (Value.agg #[.int .i64 a0_0, .bool a0_1, .int .u64 a0_2, .int .u64 a0_3, .int .u64 a0_4, .int .u64 a0_5, .int .i64 a0_6, .int .i64 a0_7])) :
    OpH Tryz.prog N K0 w0 ⟨d, .buildSlice 37 1 #[(0, x0)], ty, pos, aft, g⟩ S (.full 8 (([(⟨a0_0, ⟨a0_1, ⟨⟨⟨a0_2, a0_3⟩, ⟨a0_4, a0_5⟩⟩, a0_6, a0_7⟩⟩⟩ : Wrt)] : List Wrt).map encX)) := by
  have he0 : S.ev x0 = Value.agg #[.int .i64 a0_0, .bool a0_1, .int .u64 a0_2, .int .u64 a0_3, .int .u64 a0_4, .int .u64 a0_5, .int .i64 a0_6, .int .i64 a0_7] := by unfold St.ev; rw [h0]
  exact OpH.lit (t := 37) (e := 50) (k := 8) (xs := [[.int .i64 a0_0, .bool a0_1, .int .u64 a0_2, .int .u64 a0_3, .int .u64 a0_4, .int .u64 a0_5, .int .i64 a0_6, .int .i64 a0_7]]) (by kernel_rfl) (by simp [h0, AV.isVal]) (by simp [he0, Value.cells]) (by simp only [List.map_toArray, List.map_cons, List.map_nil, he0]; kernel_rfl) rfl rfl rfl
set_option maxRecDepth 100000 in
theorem lit_30_3 {N : Nat} {K0 : Know} {w0 : Bas} {S : St} {d : Option Nat} {ty : TypeId} {pos : String} {aft : Array Edge} {g : Option (Nat × Bool)} {x0 x1 x2 : Operand} {a0_0 : Bool} {a0_1 : Int} {a0_2 : Int} {a0_3 : Int} {a0_4 : Int} {a0_5 : Int} {a0_6 : Int} {a1_0 : Bool} {a1_1 : Int} {a1_2 : Int} {a1_3 : Int} {a1_4 : Int} {a1_5 : Int} {a1_6 : Int} {a2_0 : Bool} {a2_1 : Int} {a2_2 : Int} {a2_3 : Int} {a2_4 : Int} {a2_5 : Int} {a2_6 : Int} (h0 : S.opv x0 = .val (Value.agg #[.bool a0_0, .int .u64 a0_1, .int .u64 a0_2, .int .u64 a0_3, .int .u64 a0_4, .int .i64 a0_5, .int .i64 a0_6])) (h1 : S.opv x1 = .val (Value.agg #[.bool a1_0, .int .u64 a1_1, .int .u64 a1_2, .int .u64 a1_3, .int .u64 a1_4, .int .i64 a1_5, .int .i64 a1_6])) (h2 : S.opv x2 = .val (Value.agg #[.bool a2_0, .int .u64 a2_1, .int .u64 a2_2, .int .u64 a2_3, .int .u64 a2_4, .int .i64 a2_5, .int .i64 a2_6])) :
    OpH Tryz.prog N K0 w0 ⟨d, .buildSlice 30 3 #[(0, x0), (1, x1), (2, x2)], ty, pos, aft, g⟩ S (.full 7 (([(⟨a0_0, ⟨⟨⟨a0_1, a0_2⟩, ⟨a0_3, a0_4⟩⟩, a0_5, a0_6⟩⟩ : Slt), (⟨a1_0, ⟨⟨⟨a1_1, a1_2⟩, ⟨a1_3, a1_4⟩⟩, a1_5, a1_6⟩⟩ : Slt), (⟨a2_0, ⟨⟨⟨a2_1, a2_2⟩, ⟨a2_3, a2_4⟩⟩, a2_5, a2_6⟩⟩ : Slt)] : List Slt).map encS)) := by
  have he0 : S.ev x0 = Value.agg #[.bool a0_0, .int .u64 a0_1, .int .u64 a0_2, .int .u64 a0_3, .int .u64 a0_4, .int .i64 a0_5, .int .i64 a0_6] := by unfold St.ev; rw [h0]
  have he1 : S.ev x1 = Value.agg #[.bool a1_0, .int .u64 a1_1, .int .u64 a1_2, .int .u64 a1_3, .int .u64 a1_4, .int .i64 a1_5, .int .i64 a1_6] := by unfold St.ev; rw [h1]
  have he2 : S.ev x2 = Value.agg #[.bool a2_0, .int .u64 a2_1, .int .u64 a2_2, .int .u64 a2_3, .int .u64 a2_4, .int .i64 a2_5, .int .i64 a2_6] := by unfold St.ev; rw [h2]
  exact OpH.lit (t := 30) (e := 48) (k := 7) (xs := [[.bool a0_0, .int .u64 a0_1, .int .u64 a0_2, .int .u64 a0_3, .int .u64 a0_4, .int .i64 a0_5, .int .i64 a0_6], [.bool a1_0, .int .u64 a1_1, .int .u64 a1_2, .int .u64 a1_3, .int .u64 a1_4, .int .i64 a1_5, .int .i64 a1_6], [.bool a2_0, .int .u64 a2_1, .int .u64 a2_2, .int .u64 a2_3, .int .u64 a2_4, .int .i64 a2_5, .int .i64 a2_6]]) (by kernel_rfl) (by simp [h0, h1, h2, AV.isVal]) (by simp [he0, he1, he2, Value.cells]) (by simp only [List.map_toArray, List.map_cons, List.map_nil, he0, he1, he2]; kernel_rfl) rfl rfl rfl
set_option maxRecDepth 100000 in
theorem lit_28_1 {N : Nat} {K0 : Know} {w0 : Bas} {S : St} {d : Option Nat} {ty : TypeId} {pos : String} {aft : Array Edge} {g : Option (Nat × Bool)} {x0 : Operand} {a0_0 : Int} {a0_1 : Int} {a0_2 : Int} {a0_3 : Int} {a0_4 : Int} {a0_5 : Int} (h0 : S.opv x0 = .val (Value.agg #[.int .u64 a0_0, .int .u64 a0_1, .int .u64 a0_2, .int .u64 a0_3, .int .i64 a0_4, .int .i64 a0_5])) :
    OpH Tryz.prog N K0 w0 ⟨d, .buildSlice 28 1 #[(0, x0)], ty, pos, aft, g⟩ S (.full 6 (([(⟨⟨⟨a0_0, a0_1⟩, ⟨a0_2, a0_3⟩⟩, a0_4, a0_5⟩ : Ent)] : List Ent).map encE)) := by
  have he0 : S.ev x0 = Value.agg #[.int .u64 a0_0, .int .u64 a0_1, .int .u64 a0_2, .int .u64 a0_3, .int .i64 a0_4, .int .i64 a0_5] := by unfold St.ev; rw [h0]
  exact OpH.lit (t := 28) (e := 46) (k := 6) (xs := [[.int .u64 a0_0, .int .u64 a0_1, .int .u64 a0_2, .int .u64 a0_3, .int .i64 a0_4, .int .i64 a0_5]]) (by kernel_rfl) (by simp [h0, AV.isVal]) (by simp [he0, Value.cells]) (by simp only [List.map_toArray, List.map_cons, List.map_nil, he0]; kernel_rfl) rfl rfl rfl
set_option maxRecDepth 100000 in
theorem lit_77_1 {N : Nat} {K0 : Know} {w0 : Bas} {S : St} {d : Option Nat} {ty : TypeId} {pos : String} {aft : Array Edge} {g : Option (Nat × Bool)} {x0 : Operand} {a0_0 : Int} {a0_1 : Int} {a0_2 : Int} {a0_3 : Int} (h0 : S.opv x0 = .val (Value.agg #[.int .u64 a0_0, .int .u64 a0_1, .int .i64 a0_2, .int .i64 a0_3])) :
    OpH Tryz.prog N K0 w0 ⟨d, .buildSlice 77 1 #[(0, x0)], ty, pos, aft, g⟩ S (.full 4 (([(⟨⟨⟨a0_0, a0_1⟩, a0_2⟩, a0_3⟩ : Rte)] : List Rte).map encR)) := by
  have he0 : S.ev x0 = Value.agg #[.int .u64 a0_0, .int .u64 a0_1, .int .i64 a0_2, .int .i64 a0_3] := by unfold St.ev; rw [h0]
  exact OpH.lit (t := 77) (e := 118) (k := 4) (xs := [[.int .u64 a0_0, .int .u64 a0_1, .int .i64 a0_2, .int .i64 a0_3]]) (by kernel_rfl) (by simp [h0, AV.isVal]) (by simp [he0, Value.cells]) (by simp only [List.map_toArray, List.map_cons, List.map_nil, he0]; kernel_rfl) rfl rfl rfl
set_option maxRecDepth 100000 in
theorem lit_168_1 {N : Nat} {K0 : Know} {w0 : Bas} {S : St} {d : Option Nat} {ty : TypeId} {pos : String} {aft : Array Edge} {g : Option (Nat × Bool)} {x0 : Operand} {a0 : Int} (h0 : S.opv x0 = .val (.int .i64 a0)) :
    OpH Tryz.prog N K0 w0 ⟨d, .buildSlice 168 1 #[(0, x0)], ty, pos, aft, g⟩ S (.full 1 (([a0] : List Int).map encI)) := by
  have he0 : S.ev x0 = .int .i64 a0 := by unfold St.ev; rw [h0]
  exact OpH.lit (t := 168) (e := 3) (k := 1) (xs := [[.int .i64 a0]]) (by kernel_rfl) (by simp [h0, AV.isVal]) (by simp [he0, Value.cells]) (by simp only [List.map_toArray, List.map_cons, List.map_nil, he0]; kernel_rfl) rfl rfl rfl
set_option maxRecDepth 100000 in
theorem build_65_ {N : Nat} {K0 : Know} {w0 : Bas} {S : St} {d : Option Nat} {ty : TypeId} {pos : String} {aft : Array Edge} {g : Option (Nat × Bool)}    :
    OpH Tryz.prog N K0 w0 ⟨d, .build 65 #[], ty, pos, aft, g⟩ S (.val (.agg #[.int .u64 0, .int .u64 0, .int .i64 0])) := by
  skip
  exact OpH.build (t := 65) (by simp [ AV.isVal]) (by simp only [List.map_toArray, List.map_cons, List.map_nil, ]; kernel_rfl)
set_option maxRecDepth 100000 in
theorem build_48_ {N : Nat} {K0 : Know} {w0 : Bas} {S : St} {d : Option Nat} {ty : TypeId} {pos : String} {aft : Array Edge} {g : Option (Nat × Bool)}    :
    OpH Tryz.prog N K0 w0 ⟨d, .build 48 #[], ty, pos, aft, g⟩ S (.val (.agg #[.bool false, .int .u64 0, .int .u64 0, .int .u64 0, .int .u64 0, .int .i64 0, .int .i64 0])) := by
  skip
  exact OpH.build (t := 48) (by simp [ AV.isVal]) (by simp only [List.map_toArray, List.map_cons, List.map_nil, ]; kernel_rfl)
set_option maxRecDepth 100000 in
theorem build_48_0_1 {N : Nat} {K0 : Know} {w0 : Bas} {S : St} {d : Option Nat} {ty : TypeId} {pos : String} {aft : Array Edge} {g : Option (Nat × Bool)} {x0 x1 : Operand} {c0_0 : Bool} {c1_0 : Int} {c1_1 : Int} {c1_2 : Int} {c1_3 : Int} {c1_4 : Int} {c1_5 : Int} (h0 : S.opv x0 = .val ((.bool c0_0 : Value))) (h1 : S.opv x1 = .val (Value.agg #[.int .u64 c1_0, .int .u64 c1_1, .int .u64 c1_2, .int .u64 c1_3, .int .i64 c1_4, .int .i64 c1_5])) :
    OpH Tryz.prog N K0 w0 ⟨d, .build 48 #[(0, x0), (1, x1)], ty, pos, aft, g⟩ S (.val (.agg #[.bool c0_0, .int .u64 c1_0, .int .u64 c1_1, .int .u64 c1_2, .int .u64 c1_3, .int .i64 c1_4, .int .i64 c1_5])) := by
  have he0 : S.ev x0 = (.bool c0_0 : Value) := by unfold St.ev; rw [h0]
  have he1 : S.ev x1 = Value.agg #[.int .u64 c1_0, .int .u64 c1_1, .int .u64 c1_2, .int .u64 c1_3, .int .i64 c1_4, .int .i64 c1_5] := by unfold St.ev; rw [h1]
  exact OpH.build (t := 48) (by simp [h0, h1,  AV.isVal]) (by simp only [List.map_toArray, List.map_cons, List.map_nil, he0, he1]; kernel_rfl)
set_option maxRecDepth 100000 in
theorem build_82_0_1 {N : Nat} {K0 : Know} {w0 : Bas} {S : St} {d : Option Nat} {ty : TypeId} {pos : String} {aft : Array Edge} {g : Option (Nat × Bool)} {x0 x1 : Operand} {c0_0 : Int} {c1_0 : Int} {c1_1 : Int} {c1_2 : Int} {c1_3 : Int} {c1_4 : Int} {c1_5 : Int} (h0 : S.opv x0 = .val ((.int .i64 c0_0 : Value))) (h1 : S.opv x1 = .val (Value.agg #[.int .u64 c1_0, .int .u64 c1_1, .int .u64 c1_2, .int .u64 c1_3, .int .i64 c1_4, .int .i64 c1_5])) :
    OpH Tryz.prog N K0 w0 ⟨d, .build 82 #[(0, x0), (1, x1)], ty, pos, aft, g⟩ S (.val (.agg #[.int .i64 c0_0, .int .u64 c1_0, .int .u64 c1_1, .int .u64 c1_2, .int .u64 c1_3, .int .i64 c1_4, .int .i64 c1_5])) := by
  have he0 : S.ev x0 = (.int .i64 c0_0 : Value) := by unfold St.ev; rw [h0]
  have he1 : S.ev x1 = Value.agg #[.int .u64 c1_0, .int .u64 c1_1, .int .u64 c1_2, .int .u64 c1_3, .int .i64 c1_4, .int .i64 c1_5] := by unfold St.ev; rw [h1]
  exact OpH.build (t := 82) (by simp [h0, h1,  AV.isVal]) (by simp only [List.map_toArray, List.map_cons, List.map_nil, he0, he1]; kernel_rfl)
set_option maxRecDepth 100000 in
theorem build_50_0 {N : Nat} {K0 : Know} {w0 : Bas} {S : St} {d : Option Nat} {ty : TypeId} {pos : String} {aft : Array Edge} {g : Option (Nat × Bool)} {x0 : Operand} {c0_0 : Int} (h0 : S.opv x0 = .val ((.int .i64 c0_0 : Value))) :
    OpH Tryz.prog N K0 w0 ⟨d, .build 50 #[(0, x0)], ty, pos, aft, g⟩ S (.val (.agg #[.int .i64 c0_0, .bool false, .int .u64 0, .int .u64 0, .int .u64 0, .int .u64 0, .int .i64 0, .int .i64 0])) := by
  have he0 : S.ev x0 = (.int .i64 c0_0 : Value) := by unfold St.ev; rw [h0]
  exact OpH.build (t := 50) (by simp [h0,  AV.isVal]) (by simp only [List.map_toArray, List.map_cons, List.map_nil, he0]; kernel_rfl)
set_option maxRecDepth 100000 in
theorem build_118_0_1 {N : Nat} {K0 : Know} {w0 : Bas} {S : St} {d : Option Nat} {ty : TypeId} {pos : String} {aft : Array Edge} {g : Option (Nat × Bool)} {x0 x1 : Operand} {c0_0 : Int} {c0_1 : Int} {c0_2 : Int} {c1_0 : Int} (h0 : S.opv x0 = .val (Value.agg #[.int .u64 c0_0, .int .u64 c0_1, .int .i64 c0_2])) (h1 : S.opv x1 = .val ((.int .i64 c1_0 : Value))) :
    OpH Tryz.prog N K0 w0 ⟨d, .build 118 #[(0, x0), (1, x1)], ty, pos, aft, g⟩ S (.val (.agg #[.int .u64 c0_0, .int .u64 c0_1, .int .i64 c0_2, .int .i64 c1_0])) := by
  have he0 : S.ev x0 = Value.agg #[.int .u64 c0_0, .int .u64 c0_1, .int .i64 c0_2] := by unfold St.ev; rw [h0]
  have he1 : S.ev x1 = (.int .i64 c1_0 : Value) := by unfold St.ev; rw [h1]
  exact OpH.build (t := 118) (by simp [h0, h1,  AV.isVal]) (by simp only [List.map_toArray, List.map_cons, List.map_nil, he0, he1]; kernel_rfl)
set_option maxRecDepth 100000 in
theorem build_50_0_1 {N : Nat} {K0 : Know} {w0 : Bas} {S : St} {d : Option Nat} {ty : TypeId} {pos : String} {aft : Array Edge} {g : Option (Nat × Bool)} {x0 x1 : Operand} {c0_0 : Int} {c1_0 : Bool} {c1_1 : Int} {c1_2 : Int} {c1_3 : Int} {c1_4 : Int} {c1_5 : Int} {c1_6 : Int} (h0 : S.opv x0 = .val ((.int .i64 c0_0 : Value))) (h1 : S.opv x1 = .val (Value.agg #[.bool c1_0, .int .u64 c1_1, .int .u64 c1_2, .int .u64 c1_3, .int .u64 c1_4, .int .i64 c1_5, .int .i64 c1_6])) :
    OpH Tryz.prog N K0 w0 ⟨d, .build 50 #[(0, x0), (1, x1)], ty, pos, aft, g⟩ S (.val (.agg #[.int .i64 c0_0, .bool c1_0, .int .u64 c1_1, .int .u64 c1_2, .int .u64 c1_3, .int .u64 c1_4, .int .i64 c1_5, .int .i64 c1_6])) := by
  have he0 : S.ev x0 = (.int .i64 c0_0 : Value) := by unfold St.ev; rw [h0]
  have he1 : S.ev x1 = Value.agg #[.bool c1_0, .int .u64 c1_1, .int .u64 c1_2, .int .u64 c1_3, .int .u64 c1_4, .int .i64 c1_5, .int .i64 c1_6] := by unfold St.ev; rw [h1]
  exact OpH.build (t := 50) (by simp [h0, h1,  AV.isVal]) (by simp only [List.map_toArray, List.map_cons, List.map_nil, he0, he1]; kernel_rfl)
set_option maxRecDepth 100000 in
theorem build_116_0_1 {N : Nat} {K0 : Know} {w0 : Bas} {S : St} {d : Option Nat} {ty : TypeId} {pos : String} {aft : Array Edge} {g : Option (Nat × Bool)} {x0 x1 : Operand} {c0_0 : Int} {c0_1 : Int} {c1_0 : Int} (h0 : S.opv x0 = .val (Value.agg #[.int .u64 c0_0, .int .u64 c0_1])) (h1 : S.opv x1 = .val ((.int .i64 c1_0 : Value))) :
    OpH Tryz.prog N K0 w0 ⟨d, .build 116 #[(0, x0), (1, x1)], ty, pos, aft, g⟩ S (.val (.agg #[.int .u64 c0_0, .int .u64 c0_1, .int .i64 c1_0])) := by
  have he0 : S.ev x0 = Value.agg #[.int .u64 c0_0, .int .u64 c0_1] := by unfold St.ev; rw [h0]
  have he1 : S.ev x1 = (.int .i64 c1_0 : Value) := by unfold St.ev; rw [h1]
  exact OpH.build (t := 116) (by simp [h0, h1,  AV.isVal]) (by simp only [List.map_toArray, List.map_cons, List.map_nil, he0, he1]; kernel_rfl)
theorem g_Xor (a0 a1 : Int) (b0 b1 : Int) : Good Tryz.prog 126 [.val (.agg #[.int .u64 a0, .int .u64 a1]), .val (.agg #[.int .u64 b0, .int .u64 b1])] (.val (.agg #[.int .u64 (aXor (⟨a0, a1⟩ : A2) (⟨b0, b1⟩ : A2)).x, .int .u64 (aXor (⟨a0, a1⟩ : A2) (⟨b0, b1⟩ : A2)).y])) := Good.vals (args := [.agg #[.int .u64 a0, .int .u64 a1], .agg #[.int .u64 b0, .int .u64 b1]]) rfl fun w => c_Xor a0 a1 b0 b1 w
theorem g_wMatch (x0 x1 x2 x3 : Int) (a0 a1 : Int) : Good Tryz.prog 73 [.val (.agg #[.int .u64 x0, .int .u64 x1, .int .u64 x2, .int .u64 x3]), .val (.agg #[.int .u64 a0, .int .u64 a1])] (.val (.bool (wMatch (⟨⟨x0, x1⟩, ⟨x2, x3⟩⟩ : W2) (⟨a0, a1⟩ : A2)))) := Good.vals (args := [.agg #[.int .u64 x0, .int .u64 x1, .int .u64 x2, .int .u64 x3], .agg #[.int .u64 a0, .int .u64 a1]]) rfl fun w => c_wMatch x0 x1 x2 x3 a0 a1 w
theorem g_Above (x0 x1 x2 x3 x4 x5 : Int) (y0 y1 y2 y3 y4 y5 : Int) : Good Tryz.prog 141 [.val (.agg #[.int .u64 x0, .int .u64 x1, .int .u64 x2, .int .u64 x3, .int .i64 x4, .int .i64 x5]), .val (.agg #[.int .u64 y0, .int .u64 y1, .int .u64 y2, .int .u64 y3, .int .i64 y4, .int .i64 y5])] (.val (.bool (eAbove (⟨⟨⟨x0, x1⟩, ⟨x2, x3⟩⟩, x4, x5⟩ : Ent) (⟨⟨⟨y0, y1⟩, ⟨y2, y3⟩⟩, y4, y5⟩ : Ent)))) := Good.vals (args := [.agg #[.int .u64 x0, .int .u64 x1, .int .u64 x2, .int .u64 x3, .int .i64 x4, .int .i64 x5], .agg #[.int .u64 y0, .int .u64 y1, .int .u64 y2, .int .u64 y3, .int .i64 y4, .int .i64 y5]]) rfl fun w => c_Above x0 x1 x2 x3 x4 x5 y0 y1 y2 y3 y4 y5 w
theorem g_Alike (x0 x1 x2 x3 x4 x5 : Int) (y0 y1 y2 y3 y4 y5 : Int) : Good Tryz.prog 65 [.val (.agg #[.int .u64 x0, .int .u64 x1, .int .u64 x2, .int .u64 x3, .int .i64 x4, .int .i64 x5]), .val (.agg #[.int .u64 y0, .int .u64 y1, .int .u64 y2, .int .u64 y3, .int .i64 y4, .int .i64 y5])] (.val (.bool (eAlike (⟨⟨⟨x0, x1⟩, ⟨x2, x3⟩⟩, x4, x5⟩ : Ent) (⟨⟨⟨y0, y1⟩, ⟨y2, y3⟩⟩, y4, y5⟩ : Ent)))) := Good.vals (args := [.agg #[.int .u64 x0, .int .u64 x1, .int .u64 x2, .int .u64 x3, .int .i64 x4, .int .i64 x5], .agg #[.int .u64 y0, .int .u64 y1, .int .u64 y2, .int .u64 y3, .int .i64 y4, .int .i64 y5]]) rfl fun w => c_Alike x0 x1 x2 x3 x4 x5 y0 y1 y2 y3 y4 y5 w
theorem g_cmpInt (a : Int) (b : Int) : Good Tryz.prog 101 [.val (.int .i64 a), .val (.int .i64 b)] (.val (.int .i64 (cmpInt a b))) := Good.vals (args := [.int .i64 a, .int .i64 b]) rfl fun w => c_cmpInt a b w
theorem g_eOf (p0 p1 p2 : Int) (action : Int) : Good Tryz.prog 30 [.val (.agg #[.int .u64 p0, .int .u64 p1, .int .i64 p2]), .val (.int .i64 action)] (.val (.agg #[.int .u64 (eOf (⟨⟨p0, p1⟩, p2⟩ : Pfx) action).w.v.x, .int .u64 (eOf (⟨⟨p0, p1⟩, p2⟩ : Pfx) action).w.v.y, .int .u64 (eOf (⟨⟨p0, p1⟩, p2⟩ : Pfx) action).w.m.x, .int .u64 (eOf (⟨⟨p0, p1⟩, p2⟩ : Pfx) action).w.m.y, .int .i64 (eOf (⟨⟨p0, p1⟩, p2⟩ : Pfx) action).len, .int .i64 (eOf (⟨⟨p0, p1⟩, p2⟩ : Pfx) action).act])) := Good.vals (args := [.agg #[.int .u64 p0, .int .u64 p1, .int .i64 p2], .int .i64 action]) rfl fun w => c_eOf p0 p1 p2 action w
theorem g_eRight (x0 x1 x2 x3 x4 x5 : Int) : Good Tryz.prog 61 [.val (.agg #[.int .u64 x0, .int .u64 x1, .int .u64 x2, .int .u64 x3, .int .i64 x4, .int .i64 x5])] (.val (.bool (eRight (⟨⟨⟨x0, x1⟩, ⟨x2, x3⟩⟩, x4, x5⟩ : Ent)))) := Good.vals (args := [.agg #[.int .u64 x0, .int .u64 x1, .int .u64 x2, .int .u64 x3, .int .i64 x4, .int .i64 x5]]) rfl fun w => c_eRight x0 x1 x2 x3 x4 x5 w
end Go.Proofs.YtjmnnkhdadoehaaGreat
namespace Go.Proofs.YtjmnnkhdadoehaaGreat
set_option linter.unusedSimpArgs false
set_option linter.unusedVariables false
open Go Go.RowKit Go.Shelf
theorem g_eSort (xs : List Ent) (hm : xs.length ≤ 65536) : Good Tryz.prog 36 [.sl 6 (xs.map encE)] (.row 0 46 6 ((sortE xs).map encE)) :=
  Good.slRow (args := []) posE lenE oneE rfl fun A c w _ hn h => (c_eSort A c xs w hn h hm).mono fun _ _ ⟨v, h1, h2, h3⟩ => ⟨v, h1, by rw [sortE_length]; exact h2, h3⟩
end Go.Proofs.YtjmnnkhdadoehaaGreat
namespace Go.Proofs.YtjmnnkhdadoehaaGreat
set_option linter.unusedSimpArgs false
set_option linter.unusedVariables false
open Go Go.RowKit Go.Shelf
theorem g_eOfP (p0 p1 p2 action : Int) : Good Tryz.prog 30 [.val (.agg #[.int .u64 p0, .int .u64 p1, .int .i64 p2]), .val (.int .i64 action)] (.val (.agg #[.int .u64 (pMake ⟨p0, p1⟩ p2).a.x, .int .u64 (pMake ⟨p0, p1⟩ p2).a.y, .int .u64 (aMask (pMake ⟨p0, p1⟩ p2).len).x, .int .u64 (aMask (pMake ⟨p0, p1⟩ p2).len).y, .int .i64 (pMake ⟨p0, p1⟩ p2).len, .int .i64 action])) :=
  Good.vals (args := [.agg #[.int .u64 p0, .int .u64 p1, .int .i64 p2], .int .i64 action]) rfl fun w => c_eOf p0 p1 p2 action w
end Go.Proofs.YtjmnnkhdadoehaaGreat

/- What OnesCount64, Ones and word.Merge do. -/
namespace Go.Proofs.YtjmnnkhdadoehaaGreat
set_option linter.unusedSimpArgs false
set_option linter.unusedVariables false
open Go Go.RowKit Go.Shelf
def s1 (x : Int) : Int := IntKind.u64.wrap (bits .and .u64 (x / 2) 6148914691236517205 + bits .and .u64 x 6148914691236517205)
def s2 (x : Int) : Int := IntKind.u64.wrap (bits .and .u64 (x / 4) 3689348814741910323 + bits .and .u64 x 3689348814741910323)
def s3 (x : Int) : Int := bits .and .u64 (IntKind.u64.wrap (x / 16 + x)) 1085102592571150095
def q1 (x : Nat) : Nat := (x / 2 &&& 6148914691236517205) + (x &&& 6148914691236517205)
def q2 (x : Nat) : Nat := (x / 4 &&& 3689348814741910323) + (x &&& 3689348814741910323)
def q3 (x : Nat) : Nat := (x / 16 + x) &&& 1085102592571150095
theorem wrapN {a : Nat} (h : a < 18446744073709551616) : IntKind.u64.wrap (a : Int) = (a : Int) := by
  show (a : Int) % 18446744073709551616 = a
  omega
theorem andN {a m : Nat} (h : a < 18446744073709551616) (hm : m < 18446744073709551616) : bits .and .u64 (a : Int) (m : Int) = ((a &&& m : Nat) : Int) := bits_and_u64_nat a m h hm
theorem i1 {n : Nat} (hn : n < 18446744073709551616) : s1 n = (q1 n : Nat) ∧ q1 n ≤ 12297829382473034410 := by
  have a1 := Nat.and_le_right (n := n / 2) (m := 6148914691236517205)
  have a2 := Nat.and_le_right (n := n) (m := 6148914691236517205)
  have hb : q1 n ≤ 12297829382473034410 := by unfold q1; omega
  refine ⟨?_, hb⟩
  unfold s1
  have u1 : bits .and .u64 ((n : Int) / 2) 6148914691236517205 = ((n / 2 &&& 6148914691236517205 : Nat) : Int) := andN (a := n / 2) (m := 6148914691236517205) (by omega) (by decide)
  have u2 : bits .and .u64 (n : Int) 6148914691236517205 = ((n &&& 6148914691236517205 : Nat) : Int) := andN (a := n) (m := 6148914691236517205) hn (by decide)
  rw [u1, u2, ← Int.natCast_add]
  exact wrapN (a := q1 n) (by omega)
theorem i2 {n : Nat} (hn : n ≤ 12297829382473034410) : s2 n = (q2 n : Nat) ∧ q2 n ≤ 7378697629483820646 := by
  have a1 := Nat.and_le_right (n := n / 4) (m := 3689348814741910323)
  have a2 := Nat.and_le_right (n := n) (m := 3689348814741910323)
  have hb : q2 n ≤ 7378697629483820646 := by unfold q2; omega
  refine ⟨?_, hb⟩
  unfold s2
  have u1 : bits .and .u64 ((n : Int) / 4) 3689348814741910323 = ((n / 4 &&& 3689348814741910323 : Nat) : Int) := andN (a := n / 4) (m := 3689348814741910323) (by omega) (by decide)
  have u2 : bits .and .u64 (n : Int) 3689348814741910323 = ((n &&& 3689348814741910323 : Nat) : Int) := andN (a := n) (m := 3689348814741910323) (by omega) (by decide)
  rw [u1, u2, ← Int.natCast_add]
  exact wrapN (a := q2 n) (by omega)
theorem i3 {n : Nat} (hn : n ≤ 7378697629483820646) : s3 n = (q3 n : Nat) ∧ q3 n ≤ 1085102592571150095 := by
  refine ⟨?_, Nat.and_le_right⟩
  unfold s3
  have u1 : IntKind.u64.wrap ((n : Int) / 16 + (n : Int)) = ((n / 16 + n : Nat) : Int) := wrapN (a := n / 16 + n) (by omega)
  rw [u1]
  exact andN (a := n / 16 + n) (m := 1085102592571150095) (by omega) (by decide)
/-! ### word.Merge -/
def wMergeIs (x y : W2) : Bool := decide (x.m = y.m) && decide (aOnes (aDiffer x.v y.v x.m) = 1)
def wMergeW (x y : W2) : W2 := if wMergeIs x y = true then wClean ⟨x.v, aXor x.m (aDiffer x.v y.v x.m)⟩ else ⟨⟨0, 0⟩, ⟨0, 0⟩⟩
attribute [local irreducible] OpH OpT LT CT HT Good
end Go.Proofs.YtjmnnkhdadoehaaGreat
