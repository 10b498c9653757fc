/- Abstract contracts of the calls that are known. -/
import Derived.Test.YtjmnnkhdadoehaaQAbs3
import Derived.Test.YtjmnnkhdadoehaaQWalkA
import Derived.Test.YtjmnnkhdadoehaaQWalkE
import Derived.Test.YtjmnnkhdadoehaaQWalkF
import Derived.Test.YtjmnnkhdadoehaaQWalkR
import Derived.Test.YtjmnnkhdadoehaaQWalkT
import Derived.Test.YtjmnnkhdadoehaaQWalkW
import Derived.Test.YtjmnnkhdadoehaaQPureA
namespace Go.Proofs.Ytjmnnkhdadoehaa
set_option linter.unusedSimpArgs false
set_option linter.unusedVariables false
open Go Go.RowKit Go.Shelf
theorem posE (x : Ent) : encE x ≠ [] := by simp [encE]
set_option maxRecDepth 100000 in
theorem lit_56_1 {N : Nat} {K0 : Know} {w0 : Bas} {S : St} {d : Option Nat} {ty : TypeId} {pos : String} {aft : Array Edge} {g : Option (Nat × Bool)} {x0 : Operand} {a0_0 : Int} {a0_1 : Int} {a0_2 : Int} {a0_3 : Int} {a0_4 : Int} {a0_5 : Int} (h0 : S.opv x0 = .val (Value.agg #[.int .u64 a0_0, .int .u64 a0_1, .int .u64 a0_2, .int .u64 a0_3, .int .i64 a0_4, .int .i64 a0_5])) :
    OpH Try.prog N K0 w0 ⟨d, .buildSlice 56 1 #[(0, x0)], ty, pos, aft, g⟩ S (.full 6 (([(⟨⟨⟨a0_0, a0_1⟩, ⟨a0_2, a0_3⟩⟩, a0_4, a0_5⟩ : Ent)] : List Ent).map encE)) := by
  have he0 : S.ev x0 = Value.agg #[.int .u64 a0_0, .int .u64 a0_1, .int .u64 a0_2, .int .u64 a0_3, .int .i64 a0_4, .int .i64 a0_5] := by unfold St.ev; rw [h0]
  exact OpH.lit (t := 56) (e := 29) (k := 6) (xs := [[.int .u64 a0_0, .int .u64 a0_1, .int .u64 a0_2, .int .u64 a0_3, .int .i64 a0_4, .int .i64 a0_5]]) (by kernel_rfl) (by simp [h0, AV.isVal]) (by simp [he0, Value.cells]) (by simp only [List.map_toArray, List.map_cons, List.map_nil, he0]; kernel_rfl) rfl rfl rfl
set_option maxRecDepth 100000 in
theorem lit_33_1 {N : Nat} {K0 : Know} {w0 : Bas} {S : St} {d : Option Nat} {ty : TypeId} {pos : String} {aft : Array Edge} {g : Option (Nat × Bool)} {x0 : Operand} {a0_0 : Int} {a0_1 : Bool} {a0_2 : Int} {a0_3 : Int} {a0_4 : Int} {a0_5 : Int} {a0_6 : Int} {a0_7 : Int} (h0 : S.opv x0 = .val (Value.agg #[.int .i64 a0_0, .bool a0_1, .int .u64 a0_2, .int .u64 a0_3, .int .u64 a0_4, .int .u64 a0_5, .int .i64 a0_6, .int .i64 a0_7])) :
    OpH Try.prog N K0 w0 ⟨d, .buildSlice 33 1 #[(0, x0)], ty, pos, aft, g⟩ S (.full 8 (([(⟨a0_0, ⟨a0_1, ⟨⟨⟨a0_2, a0_3⟩, ⟨a0_4, a0_5⟩⟩, a0_6, a0_7⟩⟩⟩ : Wrt)] : List Wrt).map encX)) := by
  have he0 : S.ev x0 = Value.agg #[.int .i64 a0_0, .bool a0_1, .int .u64 a0_2, .int .u64 a0_3, .int .u64 a0_4, .int .u64 a0_5, .int .i64 a0_6, .int .i64 a0_7] := by unfold St.ev; rw [h0]
  exact OpH.lit (t := 33) (e := 64) (k := 8) (xs := [[.int .i64 a0_0, .bool a0_1, .int .u64 a0_2, .int .u64 a0_3, .int .u64 a0_4, .int .u64 a0_5, .int .i64 a0_6, .int .i64 a0_7]]) (by kernel_rfl) (by simp [h0, AV.isVal]) (by simp [he0, Value.cells]) (by simp only [List.map_toArray, List.map_cons, List.map_nil, he0]; kernel_rfl) rfl rfl rfl
set_option maxRecDepth 100000 in
theorem lit_22_3 {N : Nat} {K0 : Know} {w0 : Bas} {S : St} {d : Option Nat} {ty : TypeId} {pos : String} {aft : Array Edge} {g : Option (Nat × Bool)} {x0 x1 x2 : Operand} {a0_0 : Bool} {a0_1 : Int} {a0_2 : Int} {a0_3 : Int} {a0_4 : Int} {a0_5 : Int} {a0_6 : Int} {a1_0 : Bool} {a1_1 : Int} {a1_2 : Int} {a1_3 : Int} {a1_4 : Int} {a1_5 : Int} {a1_6 : Int} {a2_0 : Bool} {a2_1 : Int} {a2_2 : Int} {a2_3 : Int} {a2_4 : Int} {a2_5 : Int} {a2_6 : Int} (h0 : S.opv x0 = .val (Value.agg #[.bool a0_0, .int .u64 a0_1, .int .u64 a0_2, .int .u64 a0_3, .int .u64 a0_4, .int .i64 a0_5, .int .i64 a0_6])) (h1 : S.opv x1 = .val (Value.agg #[.bool a1_0, .int .u64 a1_1, .int .u64 a1_2, .int .u64 a1_3, .int .u64 a1_4, .int .i64 a1_5, .int .i64 a1_6])) (h2 : S.opv x2 = .val (Value.agg #[.bool a2_0, .int .u64 a2_1, .int .u64 a2_2, .int .u64 a2_3, .int .u64 a2_4, .int .i64 a2_5, .int .i64 a2_6])) :
    OpH Try.prog N K0 w0 ⟨d, .buildSlice 22 3 #[(0, x0), (1, x1), (2, x2)], ty, pos, aft, g⟩ S (.full 7 (([(⟨a0_0, ⟨⟨⟨a0_1, a0_2⟩, ⟨a0_3, a0_4⟩⟩, a0_5, a0_6⟩⟩ : Slt), (⟨a1_0, ⟨⟨⟨a1_1, a1_2⟩, ⟨a1_3, a1_4⟩⟩, a1_5, a1_6⟩⟩ : Slt), (⟨a2_0, ⟨⟨⟨a2_1, a2_2⟩, ⟨a2_3, a2_4⟩⟩, a2_5, a2_6⟩⟩ : Slt)] : List Slt).map encS)) := by
  have he0 : S.ev x0 = Value.agg #[.bool a0_0, .int .u64 a0_1, .int .u64 a0_2, .int .u64 a0_3, .int .u64 a0_4, .int .i64 a0_5, .int .i64 a0_6] := by unfold St.ev; rw [h0]
  have he1 : S.ev x1 = Value.agg #[.bool a1_0, .int .u64 a1_1, .int .u64 a1_2, .int .u64 a1_3, .int .u64 a1_4, .int .i64 a1_5, .int .i64 a1_6] := by unfold St.ev; rw [h1]
  have he2 : S.ev x2 = Value.agg #[.bool a2_0, .int .u64 a2_1, .int .u64 a2_2, .int .u64 a2_3, .int .u64 a2_4, .int .i64 a2_5, .int .i64 a2_6] := by unfold St.ev; rw [h2]
  exact OpH.lit (t := 22) (e := 61) (k := 7) (xs := [[.bool a0_0, .int .u64 a0_1, .int .u64 a0_2, .int .u64 a0_3, .int .u64 a0_4, .int .i64 a0_5, .int .i64 a0_6], [.bool a1_0, .int .u64 a1_1, .int .u64 a1_2, .int .u64 a1_3, .int .u64 a1_4, .int .i64 a1_5, .int .i64 a1_6], [.bool a2_0, .int .u64 a2_1, .int .u64 a2_2, .int .u64 a2_3, .int .u64 a2_4, .int .i64 a2_5, .int .i64 a2_6]]) (by kernel_rfl) (by simp [h0, h1, h2, AV.isVal]) (by simp [he0, he1, he2, Value.cells]) (by simp only [List.map_toArray, List.map_cons, List.map_nil, he0, he1, he2]; kernel_rfl) rfl rfl rfl
set_option maxRecDepth 100000 in
theorem lit_31_1 {N : Nat} {K0 : Know} {w0 : Bas} {S : St} {d : Option Nat} {ty : TypeId} {pos : String} {aft : Array Edge} {g : Option (Nat × Bool)} {x0 : Operand} {a0_0 : Bool} {a0_1 : Int} {a0_2 : Int} {a0_3 : Int} {a0_4 : Int} {a0_5 : Int} {a0_6 : Int} (h0 : S.opv x0 = .val (Value.agg #[.bool a0_0, .int .u64 a0_1, .int .u64 a0_2, .int .u64 a0_3, .int .u64 a0_4, .int .i64 a0_5, .int .i64 a0_6])) :
    OpH Try.prog N K0 w0 ⟨d, .buildSlice 31 1 #[(0, x0)], ty, pos, aft, g⟩ S (.full 7 (([(⟨a0_0, ⟨⟨⟨a0_1, a0_2⟩, ⟨a0_3, a0_4⟩⟩, a0_5, a0_6⟩⟩ : Slt)] : List Slt).map encS)) := by
  have he0 : S.ev x0 = Value.agg #[.bool a0_0, .int .u64 a0_1, .int .u64 a0_2, .int .u64 a0_3, .int .u64 a0_4, .int .i64 a0_5, .int .i64 a0_6] := by unfold St.ev; rw [h0]
  exact OpH.lit (t := 31) (e := 90) (k := 7) (xs := [[.bool a0_0, .int .u64 a0_1, .int .u64 a0_2, .int .u64 a0_3, .int .u64 a0_4, .int .i64 a0_5, .int .i64 a0_6]]) (by kernel_rfl) (by simp [h0, AV.isVal]) (by simp [he0, Value.cells]) (by simp only [List.map_toArray, List.map_cons, List.map_nil, he0]; kernel_rfl) rfl rfl rfl
set_option maxRecDepth 100000 in
theorem lit_94_1 {N : Nat} {K0 : Know} {w0 : Bas} {S : St} {d : Option Nat} {ty : TypeId} {pos : String} {aft : Array Edge} {g : Option (Nat × Bool)} {x0 : Operand} {a0 : Int} (h0 : S.opv x0 = .val (.int .i64 a0)) :
    OpH Try.prog N K0 w0 ⟨d, .buildSlice 94 1 #[(0, x0)], ty, pos, aft, g⟩ S (.full 1 (([a0] : List Int).map encI)) := by
  have he0 : S.ev x0 = .int .i64 a0 := by unfold St.ev; rw [h0]
  exact OpH.lit (t := 94) (e := 3) (k := 1) (xs := [[.int .i64 a0]]) (by kernel_rfl) (by simp [h0, AV.isVal]) (by simp [he0, Value.cells]) (by simp only [List.map_toArray, List.map_cons, List.map_nil, he0]; kernel_rfl) rfl rfl rfl
set_option maxRecDepth 100000 in
theorem lit_37_1 {N : Nat} {K0 : Know} {w0 : Bas} {S : St} {d : Option Nat} {ty : TypeId} {pos : String} {aft : Array Edge} {g : Option (Nat × Bool)} {x0 : Operand} {a0_0 : Int} {a0_1 : Bool} {a0_2 : Int} {a0_3 : Int} {a0_4 : Int} {a0_5 : Int} {a0_6 : Int} {a0_7 : Int} (h0 : S.opv x0 = .val (Value.agg #[.int .i64 a0_0, .bool a0_1, .int .u64 a0_2, .int .u64 a0_3, .int .u64 a0_4, .int .u64 a0_5, .int .i64 a0_6, .int .i64 a0_7])) :
    OpH Try.prog N K0 w0 ⟨d, .buildSlice 37 1 #[(0, x0)], ty, pos, aft, g⟩ S (.full 8 (([(⟨a0_0, ⟨a0_1, ⟨⟨⟨a0_2, a0_3⟩, ⟨a0_4, a0_5⟩⟩, a0_6, a0_7⟩⟩⟩ : Wrt)] : List Wrt).map encX)) := by
  have he0 : S.ev x0 = Value.agg #[.int .i64 a0_0, .bool a0_1, .int .u64 a0_2, .int .u64 a0_3, .int .u64 a0_4, .int .u64 a0_5, .int .i64 a0_6, .int .i64 a0_7] := by unfold St.ev; rw [h0]
  exact OpH.lit (t := 37) (e := 104) (k := 8) (xs := [[.int .i64 a0_0, .bool a0_1, .int .u64 a0_2, .int .u64 a0_3, .int .u64 a0_4, .int .u64 a0_5, .int .i64 a0_6, .int .i64 a0_7]]) (by kernel_rfl) (by simp [h0, AV.isVal]) (by simp [he0, Value.cells]) (by simp only [List.map_toArray, List.map_cons, List.map_nil, he0]; kernel_rfl) rfl rfl rfl
set_option maxRecDepth 100000 in
theorem build_67_0_1 {N : Nat} {K0 : Know} {w0 : Bas} {S : St} {d : Option Nat} {ty : TypeId} {pos : String} {aft : Array Edge} {g : Option (Nat × Bool)} {x0 x1 : Operand} {c0_0 : Int} {c1_0 : Int} {c1_1 : Int} {c1_2 : Int} {c1_3 : Int} {c1_4 : Int} {c1_5 : Int} (h0 : S.opv x0 = .val ((.int .i64 c0_0 : Value))) (h1 : S.opv x1 = .val (Value.agg #[.int .u64 c1_0, .int .u64 c1_1, .int .u64 c1_2, .int .u64 c1_3, .int .i64 c1_4, .int .i64 c1_5])) :
    OpH Try.prog N K0 w0 ⟨d, .build 67 #[(0, x0), (1, x1)], ty, pos, aft, g⟩ S (.val (.agg #[.int .i64 c0_0, .int .u64 c1_0, .int .u64 c1_1, .int .u64 c1_2, .int .u64 c1_3, .int .i64 c1_4, .int .i64 c1_5])) := by
  have he0 : S.ev x0 = (.int .i64 c0_0 : Value) := by unfold St.ev; rw [h0]
  have he1 : S.ev x1 = Value.agg #[.int .u64 c1_0, .int .u64 c1_1, .int .u64 c1_2, .int .u64 c1_3, .int .i64 c1_4, .int .i64 c1_5] := by unfold St.ev; rw [h1]
  exact OpH.build (t := 67) (by simp [h0, h1,  AV.isVal]) (by simp only [List.map_toArray, List.map_cons, List.map_nil, he0, he1]; kernel_rfl)
set_option maxRecDepth 100000 in
theorem build_61_ {N : Nat} {K0 : Know} {w0 : Bas} {S : St} {d : Option Nat} {ty : TypeId} {pos : String} {aft : Array Edge} {g : Option (Nat × Bool)}    :
    OpH Try.prog N K0 w0 ⟨d, .build 61 #[], ty, pos, aft, g⟩ S (.val (.agg #[.bool false, .int .u64 0, .int .u64 0, .int .u64 0, .int .u64 0, .int .i64 0, .int .i64 0])) := by
  skip
  exact OpH.build (t := 61) (by simp [ AV.isVal]) (by simp only [List.map_toArray, List.map_cons, List.map_nil, ]; kernel_rfl)
set_option maxRecDepth 100000 in
theorem build_64_0_1 {N : Nat} {K0 : Know} {w0 : Bas} {S : St} {d : Option Nat} {ty : TypeId} {pos : String} {aft : Array Edge} {g : Option (Nat × Bool)} {x0 x1 : Operand} {c0_0 : Int} {c1_0 : Bool} {c1_1 : Int} {c1_2 : Int} {c1_3 : Int} {c1_4 : Int} {c1_5 : Int} {c1_6 : Int} (h0 : S.opv x0 = .val ((.int .i64 c0_0 : Value))) (h1 : S.opv x1 = .val (Value.agg #[.bool c1_0, .int .u64 c1_1, .int .u64 c1_2, .int .u64 c1_3, .int .u64 c1_4, .int .i64 c1_5, .int .i64 c1_6])) :
    OpH Try.prog N K0 w0 ⟨d, .build 64 #[(0, x0), (1, x1)], ty, pos, aft, g⟩ S (.val (.agg #[.int .i64 c0_0, .bool c1_0, .int .u64 c1_1, .int .u64 c1_2, .int .u64 c1_3, .int .u64 c1_4, .int .i64 c1_5, .int .i64 c1_6])) := by
  have he0 : S.ev x0 = (.int .i64 c0_0 : Value) := by unfold St.ev; rw [h0]
  have he1 : S.ev x1 = Value.agg #[.bool c1_0, .int .u64 c1_1, .int .u64 c1_2, .int .u64 c1_3, .int .u64 c1_4, .int .i64 c1_5, .int .i64 c1_6] := by unfold St.ev; rw [h1]
  exact OpH.build (t := 64) (by simp [h0, h1,  AV.isVal]) (by simp only [List.map_toArray, List.map_cons, List.map_nil, he0, he1]; kernel_rfl)
set_option maxRecDepth 100000 in
theorem build_108_ {N : Nat} {K0 : Know} {w0 : Bas} {S : St} {d : Option Nat} {ty : TypeId} {pos : String} {aft : Array Edge} {g : Option (Nat × Bool)}    :
    OpH Try.prog N K0 w0 ⟨d, .build 108 #[], ty, pos, aft, g⟩ S (.val (.agg #[.int .u64 0, .int .u64 0, .int .i64 0])) := by
  skip
  exact OpH.build (t := 108) (by simp [ AV.isVal]) (by simp only [List.map_toArray, List.map_cons, List.map_nil, ]; kernel_rfl)
set_option maxRecDepth 100000 in
theorem build_61_0_1 {N : Nat} {K0 : Know} {w0 : Bas} {S : St} {d : Option Nat} {ty : TypeId} {pos : String} {aft : Array Edge} {g : Option (Nat × Bool)} {x0 x1 : Operand} {c0_0 : Bool} {c1_0 : Int} {c1_1 : Int} {c1_2 : Int} {c1_3 : Int} {c1_4 : Int} {c1_5 : Int} (h0 : S.opv x0 = .val ((.bool c0_0 : Value))) (h1 : S.opv x1 = .val (Value.agg #[.int .u64 c1_0, .int .u64 c1_1, .int .u64 c1_2, .int .u64 c1_3, .int .i64 c1_4, .int .i64 c1_5])) :
    OpH Try.prog N K0 w0 ⟨d, .build 61 #[(0, x0), (1, x1)], ty, pos, aft, g⟩ S (.val (.agg #[.bool c0_0, .int .u64 c1_0, .int .u64 c1_1, .int .u64 c1_2, .int .u64 c1_3, .int .i64 c1_4, .int .i64 c1_5])) := by
  have he0 : S.ev x0 = (.bool c0_0 : Value) := by unfold St.ev; rw [h0]
  have he1 : S.ev x1 = Value.agg #[.int .u64 c1_0, .int .u64 c1_1, .int .u64 c1_2, .int .u64 c1_3, .int .i64 c1_4, .int .i64 c1_5] := by unfold St.ev; rw [h1]
  exact OpH.build (t := 61) (by simp [h0, h1,  AV.isVal]) (by simp only [List.map_toArray, List.map_cons, List.map_nil, he0, he1]; kernel_rfl)
set_option maxRecDepth 100000 in
theorem build_64_0 {N : Nat} {K0 : Know} {w0 : Bas} {S : St} {d : Option Nat} {ty : TypeId} {pos : String} {aft : Array Edge} {g : Option (Nat × Bool)} {x0 : Operand} {c0_0 : Int} (h0 : S.opv x0 = .val ((.int .i64 c0_0 : Value))) :
    OpH Try.prog N K0 w0 ⟨d, .build 64 #[(0, x0)], ty, pos, aft, g⟩ S (.val (.agg #[.int .i64 c0_0, .bool false, .int .u64 0, .int .u64 0, .int .u64 0, .int .u64 0, .int .i64 0, .int .i64 0])) := by
  have he0 : S.ev x0 = (.int .i64 c0_0 : Value) := by unfold St.ev; rw [h0]
  exact OpH.build (t := 64) (by simp [h0,  AV.isVal]) (by simp only [List.map_toArray, List.map_cons, List.map_nil, he0]; kernel_rfl)
set_option maxRecDepth 100000 in
theorem build_104_0 {N : Nat} {K0 : Know} {w0 : Bas} {S : St} {d : Option Nat} {ty : TypeId} {pos : String} {aft : Array Edge} {g : Option (Nat × Bool)} {x0 : Operand} {c0_0 : Int} (h0 : S.opv x0 = .val ((.int .i64 c0_0 : Value))) :
    OpH Try.prog N K0 w0 ⟨d, .build 104 #[(0, x0)], ty, pos, aft, g⟩ S (.val (.agg #[.int .i64 c0_0, .bool false, .int .u64 0, .int .u64 0, .int .u64 0, .int .u64 0, .int .i64 0, .int .i64 0])) := by
  have he0 : S.ev x0 = (.int .i64 c0_0 : Value) := by unfold St.ev; rw [h0]
  exact OpH.build (t := 104) (by simp [h0,  AV.isVal]) (by simp only [List.map_toArray, List.map_cons, List.map_nil, he0]; kernel_rfl)
set_option maxRecDepth 100000 in
theorem build_90_0_1 {N : Nat} {K0 : Know} {w0 : Bas} {S : St} {d : Option Nat} {ty : TypeId} {pos : String} {aft : Array Edge} {g : Option (Nat × Bool)} {x0 x1 : Operand} {c0_0 : Bool} {c1_0 : Int} {c1_1 : Int} {c1_2 : Int} {c1_3 : Int} {c1_4 : Int} {c1_5 : Int} (h0 : S.opv x0 = .val ((.bool c0_0 : Value))) (h1 : S.opv x1 = .val (Value.agg #[.int .u64 c1_0, .int .u64 c1_1, .int .u64 c1_2, .int .u64 c1_3, .int .i64 c1_4, .int .i64 c1_5])) :
    OpH Try.prog N K0 w0 ⟨d, .build 90 #[(0, x0), (1, x1)], ty, pos, aft, g⟩ S (.val (.agg #[.bool c0_0, .int .u64 c1_0, .int .u64 c1_1, .int .u64 c1_2, .int .u64 c1_3, .int .i64 c1_4, .int .i64 c1_5])) := by
  have he0 : S.ev x0 = (.bool c0_0 : Value) := by unfold St.ev; rw [h0]
  have he1 : S.ev x1 = Value.agg #[.int .u64 c1_0, .int .u64 c1_1, .int .u64 c1_2, .int .u64 c1_3, .int .i64 c1_4, .int .i64 c1_5] := by unfold St.ev; rw [h1]
  exact OpH.build (t := 90) (by simp [h0, h1,  AV.isVal]) (by simp only [List.map_toArray, List.map_cons, List.map_nil, he0, he1]; kernel_rfl)
set_option maxRecDepth 100000 in
theorem build_104_0_1 {N : Nat} {K0 : Know} {w0 : Bas} {S : St} {d : Option Nat} {ty : TypeId} {pos : String} {aft : Array Edge} {g : Option (Nat × Bool)} {x0 x1 : Operand} {c0_0 : Int} {c1_0 : Bool} {c1_1 : Int} {c1_2 : Int} {c1_3 : Int} {c1_4 : Int} {c1_5 : Int} {c1_6 : Int} (h0 : S.opv x0 = .val ((.int .i64 c0_0 : Value))) (h1 : S.opv x1 = .val (Value.agg #[.bool c1_0, .int .u64 c1_1, .int .u64 c1_2, .int .u64 c1_3, .int .u64 c1_4, .int .i64 c1_5, .int .i64 c1_6])) :
    OpH Try.prog N K0 w0 ⟨d, .build 104 #[(0, x0), (1, x1)], ty, pos, aft, g⟩ S (.val (.agg #[.int .i64 c0_0, .bool c1_0, .int .u64 c1_1, .int .u64 c1_2, .int .u64 c1_3, .int .u64 c1_4, .int .i64 c1_5, .int .i64 c1_6])) := by
  have he0 : S.ev x0 = (.int .i64 c0_0 : Value) := by unfold St.ev; rw [h0]
  have he1 : S.ev x1 = Value.agg #[.bool c1_0, .int .u64 c1_1, .int .u64 c1_2, .int .u64 c1_3, .int .u64 c1_4, .int .i64 c1_5, .int .i64 c1_6] := by unfold St.ev; rw [h1]
  exact OpH.build (t := 104) (by simp [h0, h1,  AV.isVal]) (by simp only [List.map_toArray, List.map_cons, List.map_nil, he0, he1]; kernel_rfl)
theorem g_wMatch (x0 x1 x2 x3 : Int) (a0 a1 : Int) : Good Try.prog 99 [.val (.agg #[.int .u64 x0, .int .u64 x1, .int .u64 x2, .int .u64 x3]), .val (.agg #[.int .u64 a0, .int .u64 a1])] (.val (.bool (wMatch (⟨⟨x0, x1⟩, ⟨x2, x3⟩⟩ : W2) (⟨a0, a1⟩ : A2)))) := Good.vals (args := [.agg #[.int .u64 x0, .int .u64 x1, .int .u64 x2, .int .u64 x3], .agg #[.int .u64 a0, .int .u64 a1]]) rfl fun w => c_wMatch x0 x1 x2 x3 a0 a1 w
theorem g_Above (x0 x1 x2 x3 x4 x5 : Int) (y0 y1 y2 y3 y4 y5 : Int) : Good Try.prog 83 [.val (.agg #[.int .u64 x0, .int .u64 x1, .int .u64 x2, .int .u64 x3, .int .i64 x4, .int .i64 x5]), .val (.agg #[.int .u64 y0, .int .u64 y1, .int .u64 y2, .int .u64 y3, .int .i64 y4, .int .i64 y5])] (.val (.bool (eAbove (⟨⟨⟨x0, x1⟩, ⟨x2, x3⟩⟩, x4, x5⟩ : Ent) (⟨⟨⟨y0, y1⟩, ⟨y2, y3⟩⟩, y4, y5⟩ : Ent)))) := Good.vals (args := [.agg #[.int .u64 x0, .int .u64 x1, .int .u64 x2, .int .u64 x3, .int .i64 x4, .int .i64 x5], .agg #[.int .u64 y0, .int .u64 y1, .int .u64 y2, .int .u64 y3, .int .i64 y4, .int .i64 y5]]) rfl fun w => c_Above x0 x1 x2 x3 x4 x5 y0 y1 y2 y3 y4 y5 w
theorem g_Alike (x0 x1 x2 x3 x4 x5 : Int) (y0 y1 y2 y3 y4 y5 : Int) : Good Try.prog 41 [.val (.agg #[.int .u64 x0, .int .u64 x1, .int .u64 x2, .int .u64 x3, .int .i64 x4, .int .i64 x5]), .val (.agg #[.int .u64 y0, .int .u64 y1, .int .u64 y2, .int .u64 y3, .int .i64 y4, .int .i64 y5])] (.val (.bool (eAlike (⟨⟨⟨x0, x1⟩, ⟨x2, x3⟩⟩, x4, x5⟩ : Ent) (⟨⟨⟨y0, y1⟩, ⟨y2, y3⟩⟩, y4, y5⟩ : Ent)))) := Good.vals (args := [.agg #[.int .u64 x0, .int .u64 x1, .int .u64 x2, .int .u64 x3, .int .i64 x4, .int .i64 x5], .agg #[.int .u64 y0, .int .u64 y1, .int .u64 y2, .int .u64 y3, .int .i64 y4, .int .i64 y5]]) rfl fun w => c_Alike x0 x1 x2 x3 x4 x5 y0 y1 y2 y3 y4 y5 w
theorem g_cmpInt (a : Int) (b : Int) : Good Try.prog 69 [.val (.int .i64 a), .val (.int .i64 b)] (.val (.int .i64 (cmpInt a b))) := Good.vals (args := [.int .i64 a, .int .i64 b]) rfl fun w => c_cmpInt a b w
theorem g_eOf (p0 p1 p2 : Int) (action : Int) : Good Try.prog 71 [.val (.agg #[.int .u64 p0, .int .u64 p1, .int .i64 p2]), .val (.int .i64 action)] (.val (.agg #[.int .u64 (eOf (⟨⟨p0, p1⟩, p2⟩ : Pfx) action).w.v.x, .int .u64 (eOf (⟨⟨p0, p1⟩, p2⟩ : Pfx) action).w.v.y, .int .u64 (eOf (⟨⟨p0, p1⟩, p2⟩ : Pfx) action).w.m.x, .int .u64 (eOf (⟨⟨p0, p1⟩, p2⟩ : Pfx) action).w.m.y, .int .i64 (eOf (⟨⟨p0, p1⟩, p2⟩ : Pfx) action).len, .int .i64 (eOf (⟨⟨p0, p1⟩, p2⟩ : Pfx) action).act])) := Good.vals (args := [.agg #[.int .u64 p0, .int .u64 p1, .int .i64 p2], .int .i64 action]) rfl fun w => c_eOf p0 p1 p2 action w
theorem g_eRight (x0 x1 x2 x3 x4 x5 : Int) : Good Try.prog 28 [.val (.agg #[.int .u64 x0, .int .u64 x1, .int .u64 x2, .int .u64 x3, .int .i64 x4, .int .i64 x5])] (.val (.bool (eRight (⟨⟨⟨x0, x1⟩, ⟨x2, x3⟩⟩, x4, x5⟩ : Ent)))) := Good.vals (args := [.agg #[.int .u64 x0, .int .u64 x1, .int .u64 x2, .int .u64 x3, .int .i64 x4, .int .i64 x5]]) rfl fun w => c_eRight x0 x1 x2 x3 x4 x5 w
theorem g_law5One (x0 x1 x2 x3 x4 x5 : Int) : Good Try.prog 16 [.val (.agg #[.int .u64 x0, .int .u64 x1, .int .u64 x2, .int .u64 x3, .int .i64 x4, .int .i64 x5])] (.val (.agg #[.int .u64 (⟨⟨⟨x0, x1⟩, ⟨x2, x3⟩⟩, x4, x5⟩ : Ent).w.v.x, .int .u64 (⟨⟨⟨x0, x1⟩, ⟨x2, x3⟩⟩, x4, x5⟩ : Ent).w.v.y, .int .u64 (⟨⟨⟨x0, x1⟩, ⟨x2, x3⟩⟩, x4, x5⟩ : Ent).w.m.x, .int .u64 (⟨⟨⟨x0, x1⟩, ⟨x2, x3⟩⟩, x4, x5⟩ : Ent).w.m.y, .int .i64 (⟨⟨⟨x0, x1⟩, ⟨x2, x3⟩⟩, x4, x5⟩ : Ent).len, .int .i64 (⟨⟨⟨x0, x1⟩, ⟨x2, x3⟩⟩, x4, x5⟩ : Ent).act])) := Good.vals (args := [.agg #[.int .u64 x0, .int .u64 x1, .int .u64 x2, .int .u64 x3, .int .i64 x4, .int .i64 x5]]) rfl fun w => c_law5One x0 x1 x2 x3 x4 x5 w
end Go.Proofs.Ytjmnnkhdadoehaa
namespace Go.Proofs.Ytjmnnkhdadoehaa
set_option linter.unusedSimpArgs false
set_option linter.unusedVariables false
open Go Go.RowKit Go.Shelf
end Go.Proofs.Ytjmnnkhdadoehaa
namespace Go.Proofs.Ytjmnnkhdadoehaa
set_option linter.unusedSimpArgs false
set_option linter.unusedVariables false
open Go Go.RowKit Go.Shelf
end Go.Proofs.Ytjmnnkhdadoehaa

/- What OnesCount64, Ones and word.Merge do. -/
namespace Go.Proofs.Ytjmnnkhdadoehaa
set_option linter.unusedSimpArgs false
set_option linter.unusedVariables false
open Go Go.RowKit Go.Shelf
def s1 (x : Int) : Int := IntKind.u64.wrap (bits .and .u64 (x / 2) 6148914691236517205 + bits .and .u64 x 6148914691236517205)
def s2 (x : Int) : Int := IntKind.u64.wrap (bits .and .u64 (x / 4) 3689348814741910323 + bits .and .u64 x 3689348814741910323)
def s3 (x : Int) : Int := bits .and .u64 (IntKind.u64.wrap (x / 16 + x)) 1085102592571150095
def q1 (x : Nat) : Nat := (x / 2 &&& 6148914691236517205) + (x &&& 6148914691236517205)
def q2 (x : Nat) : Nat := (x / 4 &&& 3689348814741910323) + (x &&& 3689348814741910323)
def q3 (x : Nat) : Nat := (x / 16 + x) &&& 1085102592571150095
/-! ### word.Merge -/
attribute [local irreducible] OpH OpT LT CT HT Good
end Go.Proofs.Ytjmnnkhdadoehaa
