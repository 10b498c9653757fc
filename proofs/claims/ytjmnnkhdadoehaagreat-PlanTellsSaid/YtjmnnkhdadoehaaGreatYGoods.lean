/- Abstract contracts of the calls that are known. -/
import Derived.Test.YtjmnnkhdadoehaaGreatYAbs3
import Derived.Test.YtjmnnkhdadoehaaGreatYWalkA
import Derived.Test.YtjmnnkhdadoehaaGreatYWalkE
import Derived.Test.YtjmnnkhdadoehaaGreatYWalkF
import Derived.Test.YtjmnnkhdadoehaaGreatYWalkR
import Derived.Test.YtjmnnkhdadoehaaGreatYWalkT
import Derived.Test.YtjmnnkhdadoehaaGreatYWalkW
import Derived.Test.YtjmnnkhdadoehaaGreatYPureA
namespace Go.Proofs.YtjmnnkhdadoehaaGreat
set_option linter.unusedSimpArgs false
set_option linter.unusedVariables false
open Go Go.RowKit Go.Shelf
theorem lenE (x : Ent) : (encE x).length = 6 := rfl
theorem posE (x : Ent) : encE x ≠ [] := by simp [encE]
theorem oneE (x : Ent) : ∀ u ∈ encE x, u.oneCell' = true := by
  intro u hu
  simp only [encE, List.mem_cons, List.not_mem_nil, or_false] at hu
  rcases hu with rfl | rfl | rfl | rfl | rfl | rfl <;> rfl
set_option maxRecDepth 100000 in
theorem lit_37_1 {N : Nat} {K0 : Know} {w0 : Bas} {S : St} {d : Option Nat} {ty : TypeId} {pos : String} {aft : Array Edge} {g : Option (Nat × Bool)} {x0 : Operand} {a0_0 : Int} {a0_1 : Bool} {a0_2 : Int} {a0_3 : Int} {a0_4 : Int} {a0_5 : Int} {a0_6 : Int} {a0_7 : Int} (h0 : S.opv x0 = .val (Value.agg #[.int .i64 a0_0, .bool a0_1, .int .u64 a0_2, .int .u64 a0_3, .int .u64 a0_4, .int .u64 a0_5, .int .i64 a0_6, .int .i64 a0_7])) :
    OpH Tryz.prog N K0 w0 ⟨d, .buildSlice 37 1 #[(0, x0)], ty, pos, aft, g⟩ S (.full 8 (([(⟨a0_0, ⟨a0_1, ⟨⟨⟨a0_2, a0_3⟩, ⟨a0_4, a0_5⟩⟩, a0_6, a0_7⟩⟩⟩ : Wrt)] : List Wrt).map encX)) := by
  have he0 : S.ev x0 = Value.agg #[.int .i64 a0_0, .bool a0_1, .int .u64 a0_2, .int .u64 a0_3, .int .u64 a0_4, .int .u64 a0_5, .int .i64 a0_6, .int .i64 a0_7] := by unfold St.ev; rw [h0]
  exact OpH.lit (t := 37) (e := 50) (k := 8) (xs := [[.int .i64 a0_0, .bool a0_1, .int .u64 a0_2, .int .u64 a0_3, .int .u64 a0_4, .int .u64 a0_5, .int .i64 a0_6, .int .i64 a0_7]]) (by kernel_rfl) (by simp [h0, AV.isVal]) (by simp [he0, Value.cells]) (by simp only [List.map_toArray, List.map_cons, List.map_nil, he0]; kernel_rfl) rfl rfl rfl
set_option maxRecDepth 100000 in
theorem lit_30_3 {N : Nat} {K0 : Know} {w0 : Bas} {S : St} {d : Option Nat} {ty : TypeId} {pos : String} {aft : Array Edge} {g : Option (Nat × Bool)} {x0 x1 x2 : Operand} {a0_0 : Bool} {a0_1 : Int} {a0_2 : Int} {a0_3 : Int} {a0_4 : Int} {a0_5 : Int} {a0_6 : Int} {a1_0 : Bool} {a1_1 : Int} {a1_2 : Int} {a1_3 : Int} {a1_4 : Int} {a1_5 : Int} {a1_6 : Int} {a2_0 : Bool} {a2_1 : Int} {a2_2 : Int} {a2_3 : Int} {a2_4 : Int} {a2_5 : Int} {a2_6 : Int} (h0 : S.opv x0 = .val (Value.agg #[.bool a0_0, .int .u64 a0_1, .int .u64 a0_2, .int .u64 a0_3, .int .u64 a0_4, .int .i64 a0_5, .int .i64 a0_6])) (h1 : S.opv x1 = .val (Value.agg #[.bool a1_0, .int .u64 a1_1, .int .u64 a1_2, .int .u64 a1_3, .int .u64 a1_4, .int .i64 a1_5, .int .i64 a1_6])) (h2 : S.opv x2 = .val (Value.agg #[.bool a2_0, .int .u64 a2_1, .int .u64 a2_2, .int .u64 a2_3, .int .u64 a2_4, .int .i64 a2_5, .int .i64 a2_6])) :
    OpH Tryz.prog N K0 w0 ⟨d, .buildSlice 30 3 #[(0, x0), (1, x1), (2, x2)], ty, pos, aft, g⟩ S (.full 7 (([(⟨a0_0, ⟨⟨⟨a0_1, a0_2⟩, ⟨a0_3, a0_4⟩⟩, a0_5, a0_6⟩⟩ : Slt), (⟨a1_0, ⟨⟨⟨a1_1, a1_2⟩, ⟨a1_3, a1_4⟩⟩, a1_5, a1_6⟩⟩ : Slt), (⟨a2_0, ⟨⟨⟨a2_1, a2_2⟩, ⟨a2_3, a2_4⟩⟩, a2_5, a2_6⟩⟩ : Slt)] : List Slt).map encS)) := by
  have he0 : S.ev x0 = Value.agg #[.bool a0_0, .int .u64 a0_1, .int .u64 a0_2, .int .u64 a0_3, .int .u64 a0_4, .int .i64 a0_5, .int .i64 a0_6] := by unfold St.ev; rw [h0]
  have he1 : S.ev x1 = Value.agg #[.bool a1_0, .int .u64 a1_1, .int .u64 a1_2, .int .u64 a1_3, .int .u64 a1_4, .int .i64 a1_5, .int .i64 a1_6] := by unfold St.ev; rw [h1]
  have he2 : S.ev x2 = Value.agg #[.bool a2_0, .int .u64 a2_1, .int .u64 a2_2, .int .u64 a2_3, .int .u64 a2_4, .int .i64 a2_5, .int .i64 a2_6] := by unfold St.ev; rw [h2]
  exact OpH.lit (t := 30) (e := 48) (k := 7) (xs := [[.bool a0_0, .int .u64 a0_1, .int .u64 a0_2, .int .u64 a0_3, .int .u64 a0_4, .int .i64 a0_5, .int .i64 a0_6], [.bool a1_0, .int .u64 a1_1, .int .u64 a1_2, .int .u64 a1_3, .int .u64 a1_4, .int .i64 a1_5, .int .i64 a1_6], [.bool a2_0, .int .u64 a2_1, .int .u64 a2_2, .int .u64 a2_3, .int .u64 a2_4, .int .i64 a2_5, .int .i64 a2_6]]) (by kernel_rfl) (by simp [h0, h1, h2, AV.isVal]) (by simp [he0, he1, he2, Value.cells]) (by simp only [List.map_toArray, List.map_cons, List.map_nil, he0, he1, he2]; kernel_rfl) rfl rfl rfl
set_option maxRecDepth 100000 in
theorem lit_28_1 {N : Nat} {K0 : Know} {w0 : Bas} {S : St} {d : Option Nat} {ty : TypeId} {pos : String} {aft : Array Edge} {g : Option (Nat × Bool)} {x0 : Operand} {a0_0 : Int} {a0_1 : Int} {a0_2 : Int} {a0_3 : Int} {a0_4 : Int} {a0_5 : Int} (h0 : S.opv x0 = .val (Value.agg #[.int .u64 a0_0, .int .u64 a0_1, .int .u64 a0_2, .int .u64 a0_3, .int .i64 a0_4, .int .i64 a0_5])) :
    OpH Tryz.prog N K0 w0 ⟨d, .buildSlice 28 1 #[(0, x0)], ty, pos, aft, g⟩ S (.full 6 (([(⟨⟨⟨a0_0, a0_1⟩, ⟨a0_2, a0_3⟩⟩, a0_4, a0_5⟩ : Ent)] : List Ent).map encE)) := by
  have he0 : S.ev x0 = Value.agg #[.int .u64 a0_0, .int .u64 a0_1, .int .u64 a0_2, .int .u64 a0_3, .int .i64 a0_4, .int .i64 a0_5] := by unfold St.ev; rw [h0]
  exact OpH.lit (t := 28) (e := 46) (k := 6) (xs := [[.int .u64 a0_0, .int .u64 a0_1, .int .u64 a0_2, .int .u64 a0_3, .int .i64 a0_4, .int .i64 a0_5]]) (by kernel_rfl) (by simp [h0, AV.isVal]) (by simp [he0, Value.cells]) (by simp only [List.map_toArray, List.map_cons, List.map_nil, he0]; kernel_rfl) rfl rfl rfl
set_option maxRecDepth 100000 in
theorem lit_41_1 {N : Nat} {K0 : Know} {w0 : Bas} {S : St} {d : Option Nat} {ty : TypeId} {pos : String} {aft : Array Edge} {g : Option (Nat × Bool)} {x0 : Operand} {a0_0 : Int} {a0_1 : Int} {a0_2 : Int} {a0_3 : Int} {a0_4 : Int} {a0_5 : Int} {a0_6 : Int} (h0 : S.opv x0 = .val (Value.agg #[.int .i64 a0_0, .int .u64 a0_1, .int .u64 a0_2, .int .u64 a0_3, .int .u64 a0_4, .int .i64 a0_5, .int .i64 a0_6])) :
    OpH Tryz.prog N K0 w0 ⟨d, .buildSlice 41 1 #[(0, x0)], ty, pos, aft, g⟩ S (.full 7 (([(⟨a0_0, ⟨⟨⟨a0_1, a0_2⟩, ⟨a0_3, a0_4⟩⟩, a0_5, a0_6⟩⟩ : Stp)] : List Stp).map encD)) := by
  have he0 : S.ev x0 = Value.agg #[.int .i64 a0_0, .int .u64 a0_1, .int .u64 a0_2, .int .u64 a0_3, .int .u64 a0_4, .int .i64 a0_5, .int .i64 a0_6] := by unfold St.ev; rw [h0]
  exact OpH.lit (t := 41) (e := 82) (k := 7) (xs := [[.int .i64 a0_0, .int .u64 a0_1, .int .u64 a0_2, .int .u64 a0_3, .int .u64 a0_4, .int .i64 a0_5, .int .i64 a0_6]]) (by kernel_rfl) (by simp [h0, AV.isVal]) (by simp [he0, Value.cells]) (by simp only [List.map_toArray, List.map_cons, List.map_nil, he0]; kernel_rfl) rfl rfl rfl
set_option maxRecDepth 100000 in
theorem lit_53_1 {N : Nat} {K0 : Know} {w0 : Bas} {S : St} {d : Option Nat} {ty : TypeId} {pos : String} {aft : Array Edge} {g : Option (Nat × Bool)} {x0 : Operand} {a0_0 : Int} {a0_1 : Int} {a0_2 : Int} {a0_3 : Int} {a0_4 : Int} {a0_5 : Int} (h0 : S.opv x0 = .val (Value.agg #[.int .u64 a0_0, .int .u64 a0_1, .int .u64 a0_2, .int .u64 a0_3, .int .i64 a0_4, .int .i64 a0_5])) :
    OpH Tryz.prog N K0 w0 ⟨d, .buildSlice 53 1 #[(0, x0)], ty, pos, aft, g⟩ S (.full 6 (([(⟨⟨⟨a0_0, a0_1⟩, ⟨a0_2, a0_3⟩⟩, a0_4, a0_5⟩ : Ent)] : List Ent).map encE)) := by
  have he0 : S.ev x0 = Value.agg #[.int .u64 a0_0, .int .u64 a0_1, .int .u64 a0_2, .int .u64 a0_3, .int .i64 a0_4, .int .i64 a0_5] := by unfold St.ev; rw [h0]
  exact OpH.lit (t := 53) (e := 62) (k := 6) (xs := [[.int .u64 a0_0, .int .u64 a0_1, .int .u64 a0_2, .int .u64 a0_3, .int .i64 a0_4, .int .i64 a0_5]]) (by kernel_rfl) (by simp [h0, AV.isVal]) (by simp [he0, Value.cells]) (by simp only [List.map_toArray, List.map_cons, List.map_nil, he0]; kernel_rfl) rfl rfl rfl
set_option maxRecDepth 100000 in
theorem lit_56_1 {N : Nat} {K0 : Know} {w0 : Bas} {S : St} {d : Option Nat} {ty : TypeId} {pos : String} {aft : Array Edge} {g : Option (Nat × Bool)} {x0 : Operand} {a0_0 : Bool} {a0_1 : Int} {a0_2 : Int} {a0_3 : Int} {a0_4 : Int} {a0_5 : Int} {a0_6 : Int} (h0 : S.opv x0 = .val (Value.agg #[.bool a0_0, .int .u64 a0_1, .int .u64 a0_2, .int .u64 a0_3, .int .u64 a0_4, .int .i64 a0_5, .int .i64 a0_6])) :
    OpH Tryz.prog N K0 w0 ⟨d, .buildSlice 56 1 #[(0, x0)], ty, pos, aft, g⟩ S (.full 7 (([(⟨a0_0, ⟨⟨⟨a0_1, a0_2⟩, ⟨a0_3, a0_4⟩⟩, a0_5, a0_6⟩⟩ : Slt)] : List Slt).map encS)) := by
  have he0 : S.ev x0 = Value.agg #[.bool a0_0, .int .u64 a0_1, .int .u64 a0_2, .int .u64 a0_3, .int .u64 a0_4, .int .i64 a0_5, .int .i64 a0_6] := by unfold St.ev; rw [h0]
  exact OpH.lit (t := 56) (e := 102) (k := 7) (xs := [[.bool a0_0, .int .u64 a0_1, .int .u64 a0_2, .int .u64 a0_3, .int .u64 a0_4, .int .i64 a0_5, .int .i64 a0_6]]) (by kernel_rfl) (by simp [h0, AV.isVal]) (by simp [he0, Value.cells]) (by simp only [List.map_toArray, List.map_cons, List.map_nil, he0]; kernel_rfl) rfl rfl rfl
set_option maxRecDepth 100000 in
theorem lit_22_1 {N : Nat} {K0 : Know} {w0 : Bas} {S : St} {d : Option Nat} {ty : TypeId} {pos : String} {aft : Array Edge} {g : Option (Nat × Bool)} {x0 : Operand} {a0_0 : Int} {a0_1 : Int} {a0_2 : Int} {a0_3 : Int} (h0 : S.opv x0 = .val (Value.agg #[.int .u64 a0_0, .int .u64 a0_1, .int .i64 a0_2, .int .i64 a0_3])) :
    OpH Tryz.prog N K0 w0 ⟨d, .buildSlice 22 1 #[(0, x0)], ty, pos, aft, g⟩ S (.full 4 (([(⟨⟨⟨a0_0, a0_1⟩, a0_2⟩, a0_3⟩ : Rte)] : List Rte).map encR)) := by
  have he0 : S.ev x0 = Value.agg #[.int .u64 a0_0, .int .u64 a0_1, .int .i64 a0_2, .int .i64 a0_3] := by unfold St.ev; rw [h0]
  exact OpH.lit (t := 22) (e := 67) (k := 4) (xs := [[.int .u64 a0_0, .int .u64 a0_1, .int .i64 a0_2, .int .i64 a0_3]]) (by kernel_rfl) (by simp [h0, AV.isVal]) (by simp [he0, Value.cells]) (by simp only [List.map_toArray, List.map_cons, List.map_nil, he0]; kernel_rfl) rfl rfl rfl
set_option maxRecDepth 100000 in
theorem lit_77_1 {N : Nat} {K0 : Know} {w0 : Bas} {S : St} {d : Option Nat} {ty : TypeId} {pos : String} {aft : Array Edge} {g : Option (Nat × Bool)} {x0 : Operand} {a0_0 : Int} {a0_1 : Int} {a0_2 : Int} {a0_3 : Int} (h0 : S.opv x0 = .val (Value.agg #[.int .u64 a0_0, .int .u64 a0_1, .int .i64 a0_2, .int .i64 a0_3])) :
    OpH Tryz.prog N K0 w0 ⟨d, .buildSlice 77 1 #[(0, x0)], ty, pos, aft, g⟩ S (.full 4 (([(⟨⟨⟨a0_0, a0_1⟩, a0_2⟩, a0_3⟩ : Rte)] : List Rte).map encR)) := by
  have he0 : S.ev x0 = Value.agg #[.int .u64 a0_0, .int .u64 a0_1, .int .i64 a0_2, .int .i64 a0_3] := by unfold St.ev; rw [h0]
  exact OpH.lit (t := 77) (e := 118) (k := 4) (xs := [[.int .u64 a0_0, .int .u64 a0_1, .int .i64 a0_2, .int .i64 a0_3]]) (by kernel_rfl) (by simp [h0, AV.isVal]) (by simp [he0, Value.cells]) (by simp only [List.map_toArray, List.map_cons, List.map_nil, he0]; kernel_rfl) rfl rfl rfl
set_option maxRecDepth 100000 in
theorem lit_168_1 {N : Nat} {K0 : Know} {w0 : Bas} {S : St} {d : Option Nat} {ty : TypeId} {pos : String} {aft : Array Edge} {g : Option (Nat × Bool)} {x0 : Operand} {a0 : Int} (h0 : S.opv x0 = .val (.int .i64 a0)) :
    OpH Tryz.prog N K0 w0 ⟨d, .buildSlice 168 1 #[(0, x0)], ty, pos, aft, g⟩ S (.full 1 (([a0] : List Int).map encI)) := by
  have he0 : S.ev x0 = .int .i64 a0 := by unfold St.ev; rw [h0]
  exact OpH.lit (t := 168) (e := 3) (k := 1) (xs := [[.int .i64 a0]]) (by kernel_rfl) (by simp [h0, AV.isVal]) (by simp [he0, Value.cells]) (by simp only [List.map_toArray, List.map_cons, List.map_nil, he0]; kernel_rfl) rfl rfl rfl
set_option maxRecDepth 100000 in
theorem build_65_ {N : Nat} {K0 : Know} {w0 : Bas} {S : St} {d : Option Nat} {ty : TypeId} {pos : String} {aft : Array Edge} {g : Option (Nat × Bool)}    :
    OpH Tryz.prog N K0 w0 ⟨d, .build 65 #[], ty, pos, aft, g⟩ S (.val (.agg #[.int .u64 0, .int .u64 0, .int .i64 0])) := by
  skip
  exact OpH.build (t := 65) (by simp [ AV.isVal]) (by simp only [List.map_toArray, List.map_cons, List.map_nil, ]; kernel_rfl)
set_option maxRecDepth 100000 in
theorem build_48_ {N : Nat} {K0 : Know} {w0 : Bas} {S : St} {d : Option Nat} {ty : TypeId} {pos : String} {aft : Array Edge} {g : Option (Nat × Bool)}    :
    OpH Tryz.prog N K0 w0 ⟨d, .build 48 #[], ty, pos, aft, g⟩ S (.val (.agg #[.bool false, .int .u64 0, .int .u64 0, .int .u64 0, .int .u64 0, .int .i64 0, .int .i64 0])) := by
  skip
  exact OpH.build (t := 48) (by simp [ AV.isVal]) (by simp only [List.map_toArray, List.map_cons, List.map_nil, ]; kernel_rfl)
set_option maxRecDepth 100000 in
theorem build_48_0_1 {N : Nat} {K0 : Know} {w0 : Bas} {S : St} {d : Option Nat} {ty : TypeId} {pos : String} {aft : Array Edge} {g : Option (Nat × Bool)} {x0 x1 : Operand} {c0_0 : Bool} {c1_0 : Int} {c1_1 : Int} {c1_2 : Int} {c1_3 : Int} {c1_4 : Int} {c1_5 : Int} (h0 : S.opv x0 = .val ((.bool c0_0 : Value))) (h1 : S.opv x1 = .val (Value.agg #[.int .u64 c1_0, .int .u64 c1_1, .int .u64 c1_2, .int .u64 c1_3, .int .i64 c1_4, .int .i64 c1_5])) :
    OpH Tryz.prog N K0 w0 ⟨d, .build 48 #[(0, x0), (1, x1)], ty, pos, aft, g⟩ S (.val (.agg #[.bool c0_0, .int .u64 c1_0, .int .u64 c1_1, .int .u64 c1_2, .int .u64 c1_3, .int .i64 c1_4, .int .i64 c1_5])) := by
  have he0 : S.ev x0 = (.bool c0_0 : Value) := by unfold St.ev; rw [h0]
  have he1 : S.ev x1 = Value.agg #[.int .u64 c1_0, .int .u64 c1_1, .int .u64 c1_2, .int .u64 c1_3, .int .i64 c1_4, .int .i64 c1_5] := by unfold St.ev; rw [h1]
  exact OpH.build (t := 48) (by simp [h0, h1,  AV.isVal]) (by simp only [List.map_toArray, List.map_cons, List.map_nil, he0, he1]; kernel_rfl)
set_option maxRecDepth 100000 in
theorem build_82_0_1 {N : Nat} {K0 : Know} {w0 : Bas} {S : St} {d : Option Nat} {ty : TypeId} {pos : String} {aft : Array Edge} {g : Option (Nat × Bool)} {x0 x1 : Operand} {c0_0 : Int} {c1_0 : Int} {c1_1 : Int} {c1_2 : Int} {c1_3 : Int} {c1_4 : Int} {c1_5 : Int} (h0 : S.opv x0 = .val ((.int .i64 c0_0 : Value))) (h1 : S.opv x1 = .val (Value.agg #[.int .u64 c1_0, .int .u64 c1_1, .int .u64 c1_2, .int .u64 c1_3, .int .i64 c1_4, .int .i64 c1_5])) :
    OpH Tryz.prog N K0 w0 ⟨d, .build 82 #[(0, x0), (1, x1)], ty, pos, aft, g⟩ S (.val (.agg #[.int .i64 c0_0, .int .u64 c1_0, .int .u64 c1_1, .int .u64 c1_2, .int .u64 c1_3, .int .i64 c1_4, .int .i64 c1_5])) := by
  have he0 : S.ev x0 = (.int .i64 c0_0 : Value) := by unfold St.ev; rw [h0]
  have he1 : S.ev x1 = Value.agg #[.int .u64 c1_0, .int .u64 c1_1, .int .u64 c1_2, .int .u64 c1_3, .int .i64 c1_4, .int .i64 c1_5] := by unfold St.ev; rw [h1]
  exact OpH.build (t := 82) (by simp [h0, h1,  AV.isVal]) (by simp only [List.map_toArray, List.map_cons, List.map_nil, he0, he1]; kernel_rfl)
set_option maxRecDepth 100000 in
theorem build_50_0 {N : Nat} {K0 : Know} {w0 : Bas} {S : St} {d : Option Nat} {ty : TypeId} {pos : String} {aft : Array Edge} {g : Option (Nat × Bool)} {x0 : Operand} {c0_0 : Int} (h0 : S.opv x0 = .val ((.int .i64 c0_0 : Value))) :
    OpH Tryz.prog N K0 w0 ⟨d, .build 50 #[(0, x0)], ty, pos, aft, g⟩ S (.val (.agg #[.int .i64 c0_0, .bool false, .int .u64 0, .int .u64 0, .int .u64 0, .int .u64 0, .int .i64 0, .int .i64 0])) := by
  have he0 : S.ev x0 = (.int .i64 c0_0 : Value) := by unfold St.ev; rw [h0]
  exact OpH.build (t := 50) (by simp [h0,  AV.isVal]) (by simp only [List.map_toArray, List.map_cons, List.map_nil, he0]; kernel_rfl)
set_option maxRecDepth 100000 in
theorem build_46_0_1_2 {N : Nat} {K0 : Know} {w0 : Bas} {S : St} {d : Option Nat} {ty : TypeId} {pos : String} {aft : Array Edge} {g : Option (Nat × Bool)} {x0 x1 x2 : Operand} {c0_0 : Int} {c0_1 : Int} {c0_2 : Int} {c0_3 : Int} {c1_0 : Int} {c2_0 : Int} (h0 : S.opv x0 = .val (Value.agg #[.int .u64 c0_0, .int .u64 c0_1, .int .u64 c0_2, .int .u64 c0_3])) (h1 : S.opv x1 = .val ((.int .i64 c1_0 : Value))) (h2 : S.opv x2 = .val ((.int .i64 c2_0 : Value))) :
    OpH Tryz.prog N K0 w0 ⟨d, .build 46 #[(0, x0), (1, x1), (2, x2)], ty, pos, aft, g⟩ S (.val (.agg #[.int .u64 c0_0, .int .u64 c0_1, .int .u64 c0_2, .int .u64 c0_3, .int .i64 c1_0, .int .i64 c2_0])) := by
  have he0 : S.ev x0 = Value.agg #[.int .u64 c0_0, .int .u64 c0_1, .int .u64 c0_2, .int .u64 c0_3] := by unfold St.ev; rw [h0]
  have he1 : S.ev x1 = (.int .i64 c1_0 : Value) := by unfold St.ev; rw [h1]
  have he2 : S.ev x2 = (.int .i64 c2_0 : Value) := by unfold St.ev; rw [h2]
  exact OpH.build (t := 46) (by simp [h0, h1, h2,  AV.isVal]) (by simp only [List.map_toArray, List.map_cons, List.map_nil, he0, he1, he2]; kernel_rfl)
set_option maxRecDepth 100000 in
theorem build_102_0_1 {N : Nat} {K0 : Know} {w0 : Bas} {S : St} {d : Option Nat} {ty : TypeId} {pos : String} {aft : Array Edge} {g : Option (Nat × Bool)} {x0 x1 : Operand} {c0_0 : Bool} {c1_0 : Int} {c1_1 : Int} {c1_2 : Int} {c1_3 : Int} {c1_4 : Int} {c1_5 : Int} (h0 : S.opv x0 = .val ((.bool c0_0 : Value))) (h1 : S.opv x1 = .val (Value.agg #[.int .u64 c1_0, .int .u64 c1_1, .int .u64 c1_2, .int .u64 c1_3, .int .i64 c1_4, .int .i64 c1_5])) :
    OpH Tryz.prog N K0 w0 ⟨d, .build 102 #[(0, x0), (1, x1)], ty, pos, aft, g⟩ S (.val (.agg #[.bool c0_0, .int .u64 c1_0, .int .u64 c1_1, .int .u64 c1_2, .int .u64 c1_3, .int .i64 c1_4, .int .i64 c1_5])) := by
  have he0 : S.ev x0 = (.bool c0_0 : Value) := by unfold St.ev; rw [h0]
  have he1 : S.ev x1 = Value.agg #[.int .u64 c1_0, .int .u64 c1_1, .int .u64 c1_2, .int .u64 c1_3, .int .i64 c1_4, .int .i64 c1_5] := by unfold St.ev; rw [h1]
  exact OpH.build (t := 102) (by simp [h0, h1,  AV.isVal]) (by simp only [List.map_toArray, List.map_cons, List.map_nil, he0, he1]; kernel_rfl)
set_option maxRecDepth 100000 in
theorem build_44_0_1 {N : Nat} {K0 : Know} {w0 : Bas} {S : St} {d : Option Nat} {ty : TypeId} {pos : String} {aft : Array Edge} {g : Option (Nat × Bool)} {x0 x1 : Operand} {c0_0 : Int} {c0_1 : Int} {c1_0 : Int} {c1_1 : Int} (h0 : S.opv x0 = .val (Value.agg #[.int .u64 c0_0, .int .u64 c0_1])) (h1 : S.opv x1 = .val (Value.agg #[.int .u64 c1_0, .int .u64 c1_1])) :
    OpH Tryz.prog N K0 w0 ⟨d, .build 44 #[(0, x0), (1, x1)], ty, pos, aft, g⟩ S (.val (.agg #[.int .u64 c0_0, .int .u64 c0_1, .int .u64 c1_0, .int .u64 c1_1])) := by
  have he0 : S.ev x0 = Value.agg #[.int .u64 c0_0, .int .u64 c0_1] := by unfold St.ev; rw [h0]
  have he1 : S.ev x1 = Value.agg #[.int .u64 c1_0, .int .u64 c1_1] := by unfold St.ev; rw [h1]
  exact OpH.build (t := 44) (by simp [h0, h1,  AV.isVal]) (by simp only [List.map_toArray, List.map_cons, List.map_nil, he0, he1]; kernel_rfl)
set_option maxRecDepth 100000 in
theorem build_50_0_1 {N : Nat} {K0 : Know} {w0 : Bas} {S : St} {d : Option Nat} {ty : TypeId} {pos : String} {aft : Array Edge} {g : Option (Nat × Bool)} {x0 x1 : Operand} {c0_0 : Int} {c1_0 : Bool} {c1_1 : Int} {c1_2 : Int} {c1_3 : Int} {c1_4 : Int} {c1_5 : Int} {c1_6 : Int} (h0 : S.opv x0 = .val ((.int .i64 c0_0 : Value))) (h1 : S.opv x1 = .val (Value.agg #[.bool c1_0, .int .u64 c1_1, .int .u64 c1_2, .int .u64 c1_3, .int .u64 c1_4, .int .i64 c1_5, .int .i64 c1_6])) :
    OpH Tryz.prog N K0 w0 ⟨d, .build 50 #[(0, x0), (1, x1)], ty, pos, aft, g⟩ S (.val (.agg #[.int .i64 c0_0, .bool c1_0, .int .u64 c1_1, .int .u64 c1_2, .int .u64 c1_3, .int .u64 c1_4, .int .i64 c1_5, .int .i64 c1_6])) := by
  have he0 : S.ev x0 = (.int .i64 c0_0 : Value) := by unfold St.ev; rw [h0]
  have he1 : S.ev x1 = Value.agg #[.bool c1_0, .int .u64 c1_1, .int .u64 c1_2, .int .u64 c1_3, .int .u64 c1_4, .int .i64 c1_5, .int .i64 c1_6] := by unfold St.ev; rw [h1]
  exact OpH.build (t := 50) (by simp [h0, h1,  AV.isVal]) (by simp only [List.map_toArray, List.map_cons, List.map_nil, he0, he1]; kernel_rfl)
set_option maxRecDepth 100000 in
theorem build_44_ {N : Nat} {K0 : Know} {w0 : Bas} {S : St} {d : Option Nat} {ty : TypeId} {pos : String} {aft : Array Edge} {g : Option (Nat × Bool)}    :
    OpH Tryz.prog N K0 w0 ⟨d, .build 44 #[], ty, pos, aft, g⟩ S (.val (.agg #[.int .u64 0, .int .u64 0, .int .u64 0, .int .u64 0])) := by
  skip
  exact OpH.build (t := 44) (by simp [ AV.isVal]) (by simp only [List.map_toArray, List.map_cons, List.map_nil, ]; kernel_rfl)
theorem g_Xor (a0 a1 : Int) (b0 b1 : Int) : Good Tryz.prog 126 [.val (.agg #[.int .u64 a0, .int .u64 a1]), .val (.agg #[.int .u64 b0, .int .u64 b1])] (.val (.agg #[.int .u64 (aXor (⟨a0, a1⟩ : A2) (⟨b0, b1⟩ : A2)).x, .int .u64 (aXor (⟨a0, a1⟩ : A2) (⟨b0, b1⟩ : A2)).y])) := Good.vals (args := [.agg #[.int .u64 a0, .int .u64 a1], .agg #[.int .u64 b0, .int .u64 b1]]) rfl fun w => c_Xor a0 a1 b0 b1 w
theorem g_differ (a0 a1 : Int) (b0 b1 : Int) (m0 m1 : Int) : Good Tryz.prog 103 [.val (.agg #[.int .u64 a0, .int .u64 a1]), .val (.agg #[.int .u64 b0, .int .u64 b1]), .val (.agg #[.int .u64 m0, .int .u64 m1])] (.val (.agg #[.int .u64 (aDiffer (⟨a0, a1⟩ : A2) (⟨b0, b1⟩ : A2) (⟨m0, m1⟩ : A2)).x, .int .u64 (aDiffer (⟨a0, a1⟩ : A2) (⟨b0, b1⟩ : A2) (⟨m0, m1⟩ : A2)).y])) := Good.vals (args := [.agg #[.int .u64 a0, .int .u64 a1], .agg #[.int .u64 b0, .int .u64 b1], .agg #[.int .u64 m0, .int .u64 m1]]) rfl fun w => c_differ a0 a1 b0 b1 m0 m1 w
theorem g_clean (x0 x1 x2 x3 : Int) : Good Tryz.prog 124 [.val (.agg #[.int .u64 x0, .int .u64 x1, .int .u64 x2, .int .u64 x3])] (.val (.agg #[.int .u64 (wClean (⟨⟨x0, x1⟩, ⟨x2, x3⟩⟩ : W2)).v.x, .int .u64 (wClean (⟨⟨x0, x1⟩, ⟨x2, x3⟩⟩ : W2)).v.y, .int .u64 (wClean (⟨⟨x0, x1⟩, ⟨x2, x3⟩⟩ : W2)).m.x, .int .u64 (wClean (⟨⟨x0, x1⟩, ⟨x2, x3⟩⟩ : W2)).m.y])) := Good.vals (args := [.agg #[.int .u64 x0, .int .u64 x1, .int .u64 x2, .int .u64 x3]]) rfl fun w => c_clean x0 x1 x2 x3 w
theorem g_wMatch (x0 x1 x2 x3 : Int) (a0 a1 : Int) : Good Tryz.prog 73 [.val (.agg #[.int .u64 x0, .int .u64 x1, .int .u64 x2, .int .u64 x3]), .val (.agg #[.int .u64 a0, .int .u64 a1])] (.val (.bool (wMatch (⟨⟨x0, x1⟩, ⟨x2, x3⟩⟩ : W2) (⟨a0, a1⟩ : A2)))) := Good.vals (args := [.agg #[.int .u64 x0, .int .u64 x1, .int .u64 x2, .int .u64 x3], .agg #[.int .u64 a0, .int .u64 a1]]) rfl fun w => c_wMatch x0 x1 x2 x3 a0 a1 w
theorem g_Above (x0 x1 x2 x3 x4 x5 : Int) (y0 y1 y2 y3 y4 y5 : Int) : Good Tryz.prog 141 [.val (.agg #[.int .u64 x0, .int .u64 x1, .int .u64 x2, .int .u64 x3, .int .i64 x4, .int .i64 x5]), .val (.agg #[.int .u64 y0, .int .u64 y1, .int .u64 y2, .int .u64 y3, .int .i64 y4, .int .i64 y5])] (.val (.bool (eAbove (⟨⟨⟨x0, x1⟩, ⟨x2, x3⟩⟩, x4, x5⟩ : Ent) (⟨⟨⟨y0, y1⟩, ⟨y2, y3⟩⟩, y4, y5⟩ : Ent)))) := Good.vals (args := [.agg #[.int .u64 x0, .int .u64 x1, .int .u64 x2, .int .u64 x3, .int .i64 x4, .int .i64 x5], .agg #[.int .u64 y0, .int .u64 y1, .int .u64 y2, .int .u64 y3, .int .i64 y4, .int .i64 y5]]) rfl fun w => c_Above x0 x1 x2 x3 x4 x5 y0 y1 y2 y3 y4 y5 w
theorem g_Alike (x0 x1 x2 x3 x4 x5 : Int) (y0 y1 y2 y3 y4 y5 : Int) : Good Tryz.prog 65 [.val (.agg #[.int .u64 x0, .int .u64 x1, .int .u64 x2, .int .u64 x3, .int .i64 x4, .int .i64 x5]), .val (.agg #[.int .u64 y0, .int .u64 y1, .int .u64 y2, .int .u64 y3, .int .i64 y4, .int .i64 y5])] (.val (.bool (eAlike (⟨⟨⟨x0, x1⟩, ⟨x2, x3⟩⟩, x4, x5⟩ : Ent) (⟨⟨⟨y0, y1⟩, ⟨y2, y3⟩⟩, y4, y5⟩ : Ent)))) := Good.vals (args := [.agg #[.int .u64 x0, .int .u64 x1, .int .u64 x2, .int .u64 x3, .int .i64 x4, .int .i64 x5], .agg #[.int .u64 y0, .int .u64 y1, .int .u64 y2, .int .u64 y3, .int .i64 y4, .int .i64 y5]]) rfl fun w => c_Alike x0 x1 x2 x3 x4 x5 y0 y1 y2 y3 y4 y5 w
theorem g_cmpInt (a : Int) (b : Int) : Good Tryz.prog 101 [.val (.int .i64 a), .val (.int .i64 b)] (.val (.int .i64 (cmpInt a b))) := Good.vals (args := [.int .i64 a, .int .i64 b]) rfl fun w => c_cmpInt a b w
theorem g_eOf (p0 p1 p2 : Int) (action : Int) : Good Tryz.prog 30 [.val (.agg #[.int .u64 p0, .int .u64 p1, .int .i64 p2]), .val (.int .i64 action)] (.val (.agg #[.int .u64 (eOf (⟨⟨p0, p1⟩, p2⟩ : Pfx) action).w.v.x, .int .u64 (eOf (⟨⟨p0, p1⟩, p2⟩ : Pfx) action).w.v.y, .int .u64 (eOf (⟨⟨p0, p1⟩, p2⟩ : Pfx) action).w.m.x, .int .u64 (eOf (⟨⟨p0, p1⟩, p2⟩ : Pfx) action).w.m.y, .int .i64 (eOf (⟨⟨p0, p1⟩, p2⟩ : Pfx) action).len, .int .i64 (eOf (⟨⟨p0, p1⟩, p2⟩ : Pfx) action).act])) := Good.vals (args := [.agg #[.int .u64 p0, .int .u64 p1, .int .i64 p2], .int .i64 action]) rfl fun w => c_eOf p0 p1 p2 action w
theorem g_eRight (x0 x1 x2 x3 x4 x5 : Int) : Good Tryz.prog 61 [.val (.agg #[.int .u64 x0, .int .u64 x1, .int .u64 x2, .int .u64 x3, .int .i64 x4, .int .i64 x5])] (.val (.bool (eRight (⟨⟨⟨x0, x1⟩, ⟨x2, x3⟩⟩, x4, x5⟩ : Ent)))) := Good.vals (args := [.agg #[.int .u64 x0, .int .u64 x1, .int .u64 x2, .int .u64 x3, .int .i64 x4, .int .i64 x5]]) rfl fun w => c_eRight x0 x1 x2 x3 x4 x5 w
theorem g_law5One (x0 x1 x2 x3 x4 x5 : Int) : Good Tryz.prog 48 [.val (.agg #[.int .u64 x0, .int .u64 x1, .int .u64 x2, .int .u64 x3, .int .i64 x4, .int .i64 x5])] (.val (.agg #[.int .u64 (⟨⟨⟨x0, x1⟩, ⟨x2, x3⟩⟩, x4, x5⟩ : Ent).w.v.x, .int .u64 (⟨⟨⟨x0, x1⟩, ⟨x2, x3⟩⟩, x4, x5⟩ : Ent).w.v.y, .int .u64 (⟨⟨⟨x0, x1⟩, ⟨x2, x3⟩⟩, x4, x5⟩ : Ent).w.m.x, .int .u64 (⟨⟨⟨x0, x1⟩, ⟨x2, x3⟩⟩, x4, x5⟩ : Ent).w.m.y, .int .i64 (⟨⟨⟨x0, x1⟩, ⟨x2, x3⟩⟩, x4, x5⟩ : Ent).len, .int .i64 (⟨⟨⟨x0, x1⟩, ⟨x2, x3⟩⟩, x4, x5⟩ : Ent).act])) := Good.vals (args := [.agg #[.int .u64 x0, .int .u64 x1, .int .u64 x2, .int .u64 x3, .int .i64 x4, .int .i64 x5]]) rfl fun w => c_law5One x0 x1 x2 x3 x4 x5 w
end Go.Proofs.YtjmnnkhdadoehaaGreat
namespace Go.Proofs.YtjmnnkhdadoehaaGreat
set_option linter.unusedSimpArgs false
set_option linter.unusedVariables false
open Go Go.RowKit Go.Shelf
theorem g_law5Of (xs : List Ent) (hm : xs.length ≤ 65536) : Good Tryz.prog 20 [.sl 6 (xs.map encE)] (.row 0 62 6 (xs.map encE)) :=
  Good.slRow (args := []) posE lenE oneE rfl fun A c w _ _ h => c_law5Of A c xs w h hm
theorem g_eSort (xs : List Ent) (hm : xs.length ≤ 65536) : Good Tryz.prog 36 [.sl 6 (xs.map encE)] (.row 0 46 6 ((sortE xs).map encE)) :=
  Good.slRow (args := []) posE lenE oneE rfl fun A c w _ hn h => (c_eSort A c xs w hn h hm).mono fun _ _ ⟨v, h1, h2, h3⟩ => ⟨v, h1, by rw [sortE_length]; exact h2, h3⟩
end Go.Proofs.YtjmnnkhdadoehaaGreat
namespace Go.Proofs.YtjmnnkhdadoehaaGreat
set_option linter.unusedSimpArgs false
set_option linter.unusedVariables false
open Go Go.RowKit Go.Shelf
theorem g_eOfP (p0 p1 p2 action : Int) : Good Tryz.prog 30 [.val (.agg #[.int .u64 p0, .int .u64 p1, .int .i64 p2]), .val (.int .i64 action)] (.val (.agg #[.int .u64 (pMake ⟨p0, p1⟩ p2).a.x, .int .u64 (pMake ⟨p0, p1⟩ p2).a.y, .int .u64 (aMask (pMake ⟨p0, p1⟩ p2).len).x, .int .u64 (aMask (pMake ⟨p0, p1⟩ p2).len).y, .int .i64 (pMake ⟨p0, p1⟩ p2).len, .int .i64 action])) :=
  Good.vals (args := [.agg #[.int .u64 p0, .int .u64 p1, .int .i64 p2], .int .i64 action]) rfl fun w => c_eOf p0 p1 p2 action w
end Go.Proofs.YtjmnnkhdadoehaaGreat

/- What OnesCount64, Ones and word.Merge do. -/
namespace Go.Proofs.YtjmnnkhdadoehaaGreat
set_option linter.unusedSimpArgs false
set_option linter.unusedVariables false
open Go Go.RowKit Go.Shelf
def s1 (x : Int) : Int := IntKind.u64.wrap (bits .and .u64 (x / 2) 6148914691236517205 + bits .and .u64 x 6148914691236517205)
def s2 (x : Int) : Int := IntKind.u64.wrap (bits .and .u64 (x / 4) 3689348814741910323 + bits .and .u64 x 3689348814741910323)
def s3 (x : Int) : Int := bits .and .u64 (IntKind.u64.wrap (x / 16 + x)) 1085102592571150095
def s4 (x : Int) : Int := IntKind.u64.wrap (x + x / 256)
def s5 (x : Int) : Int := IntKind.u64.wrap (x + x / 65536)
def s6 (x : Int) : Int := IntKind.u64.wrap (x + x / 4294967296)
def popI (x : Int) : Int := bits .and .i64 (wrap64 (s6 (s5 (s4 (s3 (s2 (s1 x))))))) 127
def q1 (x : Nat) : Nat := (x / 2 &&& 6148914691236517205) + (x &&& 6148914691236517205)
def q2 (x : Nat) : Nat := (x / 4 &&& 3689348814741910323) + (x &&& 3689348814741910323)
def q3 (x : Nat) : Nat := (x / 16 + x) &&& 1085102592571150095
theorem wrapN {a : Nat} (h : a < 18446744073709551616) : IntKind.u64.wrap (a : Int) = (a : Int) := by
  show (a : Int) % 18446744073709551616 = a
  omega
theorem andN {a m : Nat} (h : a < 18446744073709551616) (hm : m < 18446744073709551616) : bits .and .u64 (a : Int) (m : Int) = ((a &&& m : Nat) : Int) := bits_and_u64_nat a m h hm
theorem i1 {n : Nat} (hn : n < 18446744073709551616) : s1 n = (q1 n : Nat) ∧ q1 n ≤ 12297829382473034410 := by
  have a1 := Nat.and_le_right (n := n / 2) (m := 6148914691236517205)
  have a2 := Nat.and_le_right (n := n) (m := 6148914691236517205)
  have hb : q1 n ≤ 12297829382473034410 := by unfold q1; omega
  refine ⟨?_, hb⟩
  unfold s1
  have u1 : bits .and .u64 ((n : Int) / 2) 6148914691236517205 = ((n / 2 &&& 6148914691236517205 : Nat) : Int) := andN (a := n / 2) (m := 6148914691236517205) (by omega) (by decide)
  have u2 : bits .and .u64 (n : Int) 6148914691236517205 = ((n &&& 6148914691236517205 : Nat) : Int) := andN (a := n) (m := 6148914691236517205) hn (by decide)
  rw [u1, u2, ← Int.natCast_add]
  exact wrapN (a := q1 n) (by omega)
theorem i2 {n : Nat} (hn : n ≤ 12297829382473034410) : s2 n = (q2 n : Nat) ∧ q2 n ≤ 7378697629483820646 := by
  have a1 := Nat.and_le_right (n := n / 4) (m := 3689348814741910323)
  have a2 := Nat.and_le_right (n := n) (m := 3689348814741910323)
  have hb : q2 n ≤ 7378697629483820646 := by unfold q2; omega
  refine ⟨?_, hb⟩
  unfold s2
  have u1 : bits .and .u64 ((n : Int) / 4) 3689348814741910323 = ((n / 4 &&& 3689348814741910323 : Nat) : Int) := andN (a := n / 4) (m := 3689348814741910323) (by omega) (by decide)
  have u2 : bits .and .u64 (n : Int) 3689348814741910323 = ((n &&& 3689348814741910323 : Nat) : Int) := andN (a := n) (m := 3689348814741910323) (by omega) (by decide)
  rw [u1, u2, ← Int.natCast_add]
  exact wrapN (a := q2 n) (by omega)
theorem i3 {n : Nat} (hn : n ≤ 7378697629483820646) : s3 n = (q3 n : Nat) ∧ q3 n ≤ 1085102592571150095 := by
  refine ⟨?_, Nat.and_le_right⟩
  unfold s3
  have u1 : IntKind.u64.wrap ((n : Int) / 16 + (n : Int)) = ((n / 16 + n : Nat) : Int) := wrapN (a := n / 16 + n) (by omega)
  rw [u1]
  exact andN (a := n / 16 + n) (m := 1085102592571150095) (by omega) (by decide)
theorem i4 {n : Nat} (hn : n ≤ 1085102592571150095) : s4 n = (n + n / 256 : Nat) ∧ n + n / 256 ≤ 1200000000000000000 := ⟨wrapN (a := n + n / 256) (by omega), by omega⟩
theorem i5 {n : Nat} (hn : n ≤ 1200000000000000000) : s5 n = (n + n / 65536 : Nat) ∧ n + n / 65536 ≤ 1300000000000000000 := ⟨wrapN (a := n + n / 65536) (by omega), by omega⟩
theorem i6 {n : Nat} (hn : n ≤ 1300000000000000000) : s6 n = (n + n / 4294967296 : Nat) ∧ n + n / 4294967296 ≤ 1400000000000000000 := ⟨wrapN (a := n + n / 4294967296) (by omega), by omega⟩
theorem and7 {n : Nat} (hn : n ≤ 1400000000000000000) : bits .and .i64 (wrap64 n) 127 = ((n &&& 127 : Nat) : Int) := by
  rw [show wrap64 (n : Int) = (n : Int) from by rw [← IntWalk.i64_left]; exact IntWalk.i64_in _ (by omega)]
  exact (bits_nat .i64 63 (by decide) (fun m h0 h1 => IntWalk.i64_in m (by have : m < 9223372036854775808 := h1; omega)) n 127 (by show n < 9223372036854775808; omega) (by decide)).1
theorem popI_pop (n : Nat) (hn : n < 18446744073709551616) : popI (n : Int) = (pop64 n : Nat) := by
  unfold popI
  obtain ⟨h1, b1⟩ := i1 hn
  obtain ⟨h2, b2⟩ := i2 b1
  obtain ⟨h3, b3⟩ := i3 b2
  obtain ⟨h4, b4⟩ := i4 b3
  obtain ⟨h5, b5⟩ := i5 b4
  obtain ⟨h6, b6⟩ := i6 b5
  rw [h1, h2, h3, h4, h5, h6, and7 b6]
  rfl
set_option maxRecDepth 100000 in
set_option maxHeartbeats 2000000 in
theorem c_pop (x : Int) (w : World) : Calls Tryz.prog 143 #[.int .u64 x] w fun e w' => e = .returned (.int .i64 (popI x)) ∧ Below w.heap.size w w' := by
  go_enter Tryz.func143, Tryz.ntmps143
  go_wp2
  refine bodyPost_ret (v := .int .i64 (popI x)) ?_ rfl ⟨rfl, Below.refl _ _⟩
  simp [results, Tryz.f143, go_sem]
  rfl
theorem g_pop (x : Int) (h : U x) : Good Tryz.prog 143 [.val (.int .u64 x)] (.val (.int .i64 (pop64 x.toNat : Nat))) := by
  obtain ⟨n, rfl, hn⟩ := U_nat h
  rw [Int.toNat_natCast, ← popI_pop n hn]
  exact Good.vals (args := [.int .u64 n]) rfl fun w => c_pop n w
/-! ### word.Merge -/
theorem popN_le (n : Nat) : pop64 n ≤ 127 := by
  unfold pop64
  exact Nat.and_le_right
def wMergeIs (x y : W2) : Bool := decide (x.m = y.m) && decide (aOnes (aDiffer x.v y.v x.m) = 1)
def wMergeW (x y : W2) : W2 := if wMergeIs x y = true then wClean ⟨x.v, aXor x.m (aDiffer x.v y.v x.m)⟩ else ⟨⟨0, 0⟩, ⟨0, 0⟩⟩
attribute [local irreducible] OpH OpT LT CT HT Good
theorem arm125_1 {p : Prop} (h : p := by first | exact fm0 | exact fm36 | exact fm34 | exact fm49 | exact OpH.callF Tryz.func143 rfl rfl rfl ((g_pop _ (by assumption))) rfl | exact fm37 | exact fm35 | exact fm4 | fail) : p := h
set_option maxRecDepth 100000 in
set_option maxHeartbeats 2000000 in
theorem g_Ones (a0 a1 : Int) (h0 : U a0) (h1 : U a1) : Good Tryz.prog 125 [.val (.agg #[.int .u64 a0, .int .u64 a1])] (.val (.int .i64 (aOnes ⟨a0, a1⟩))) := by
  have p0 := popN_le a0.toNat
  have p1 := popN_le a1.toNat
  unfold aOnes
  refine Good.of_body (T := [(0, _)]) Tryz.func125 rfl rfl rfl ?_
  intro K0 w0 hno
  repeat' (first | refine CT.seqD (id := 1) 7 (by kernel_rfl) (by kernel_rfl) ?_ | refine CT.draw (id := 1) 7 (by kernel_rfl) (by kernel_rfl) ?_ | (refine LT.consT ?_; (first | refine T.box (e := 25) (cs := [.val _, .val _]) rfl rfl (by decide) rfl rfl ?_)) | ((first | apply LT.cons1 | apply HT.cons1); exact arm125_1; (try decide)) | refine stp ?_ | (refine stq ?_ ?_ <;> intro _))
  refine ⟨by first | exact .inl rfl | exact .inr rfl, _, (.cons (.tmp 2 (A := .val _) rfl (fun _ h => by cases h)) .nil), ?_, rfl⟩
  rfl
theorem arm97_1 {p : Prop} (h : p := by first | exact fm0 | exact OpH.fieldC (s := 44) (f := 0) (off := 0) rfl (by kernel_rfl) rfl | exact OpH.fieldB (s := 44) (f := 0) (off := 0) rfl (by kernel_rfl) rfl | exact fm58 | exact OpH.fieldC (s := 44) (f := 1) (off := 2) rfl (by kernel_rfl) rfl | exact OpH.fieldB (s := 44) (f := 1) (off := 2) rfl (by kernel_rfl) rfl | exact OpH.callF Tryz.func103 rfl rfl rfl (g_differ _ _ _ _ _ _) rfl | exact OpH.bin rfl rfl (pb_of (pb_agg eqg_25 (neq_25 _ _ _ _)) (nsame_f (by first | rfl | assumption))) | exact OpH.bin rfl rfl (pb_of (pb_agg eqg_25 (neq_25 _ _ _ _)) (nsame_t (by assumption))) | exact OpH.bin rfl rfl (pb_agg eqg_25 (neq_25 _ _ _ _)) | exact fm53 | exact OpH.callF Tryz.func125 rfl rfl rfl ((g_Ones _ _ (by assumption) (by assumption))) rfl | exact fm7 | exact fm54 | exact fm55 | exact build_44_  | exact OpH.build (t := 44) (cells := #[_, _, _, _]) (by kernel_rfl) rfl | exact OpH.callF Tryz.func126 rfl rfl rfl (g_Xor _ _ _ _) rfl | exact build_44_0_1 rfl rfl | exact OpH.callF Tryz.func124 rfl rfl rfl (g_clean _ _ _ _) rfl | fail) : p := h
theorem stpWalkP_1 {G G' : Prop} (h' : G') (h : Hidd G' → G := by (first | (intro h; (first | refine CT.seqD (id := 4) 8 (by kernel_rfl) (by kernel_rfl) ?_ | refine CT.draw (id := 4) 8 (by kernel_rfl) (by kernel_rfl) ?_ | (refine LT.consT ?_; (first | refine T.box (e := 44) (cs := [.val _, .val _, .val _, .val _]) rfl rfl (by decide) rfl rfl ?_ | refine T.alloc (e := 44) (z := .agg #[.int .u64 0, .int .u64 0, .int .u64 0, .int .u64 0]) (cs := [.val (.int .u64 0), .val (.int .u64 0), .val (.int .u64 0), .val (.int .u64 0)]) (by kernel_rfl) rfl (by decide) rfl rfl ?_ | refine T.alloc (e := 25) (z := .agg #[.int .u64 0, .int .u64 0]) (cs := [.val (.int .u64 0), .val (.int .u64 0)]) (by kernel_rfl) rfl (by decide) rfl rfl ?_ | refine T.store (t := 25) rfl rfl rfl (by kernel_rfl) (by kernel_rfl) (Nat.le_of_ble_eq_true (by kernel_rfl)) rfl rfl ?_ | refine T.store (t := 44) rfl rfl rfl (by kernel_rfl) (by kernel_rfl) (Nat.le_of_ble_eq_true (by kernel_rfl)) rfl rfl ?_)) | ((first | apply LT.cons1 | (apply LT.guard1; rfl; rfl; rfl; decide) | apply HT.cons1 | (apply HT.guard1; rfl; rfl; rfl)); exact arm97_1; (try decide))); exact h.1) | fail)) : G := h ⟨h'⟩
set_option maxRecDepth 100000 in
set_option maxHeartbeats 2000000 in
theorem g_wMerge (x y : W2) (hx : x.ok) (hy : y.ok) : Good Tryz.prog 97 [.val (.agg #[.int .u64 x.v.x, .int .u64 x.v.y, .int .u64 x.m.x, .int .u64 x.m.y]), .val (.agg #[.int .u64 y.v.x, .int .u64 y.v.y, .int .u64 y.m.x, .int .u64 y.m.y])] (.tup [.val (.agg #[.int .u64 (wMergeW x y).v.x, .int .u64 (wMergeW x y).v.y, .int .u64 (wMergeW x y).m.x, .int .u64 (wMergeW x y).m.y]), .val (.bool (wMergeIs x y))]) := by
  have hd : (aDiffer x.v y.v x.m).ok := ok_and (ok_xor hx.1 hy.1) hx.2
  have hd0 : U (aDiffer x.v y.v x.m).x := hd.1
  have hd1 : U (aDiffer x.v y.v x.m).y := hd.2
  refine Good.of_body (T := [(0, _), (1, _)]) Tryz.func97 rfl rfl rfl ?_
  intro K0 w0 hno
  by_cases hm : x.m = y.m
  · have hm' : (⟨x.m.x, x.m.y⟩ : A2) = ⟨y.m.x, y.m.y⟩ := hm
    by_cases ho : aOnes (aDiffer x.v y.v x.m) = 1
    · have hI : wMergeIs x y = true := by unfold wMergeIs; rw [decide_eq_true hm, decide_eq_true ho]; rfl
      repeat' (first | refine stpWalkP_1 ?_ | refine stp ?_ | (refine stq ?_ ?_ <;> intro _))
      refine ⟨by first | exact .inl rfl | exact .inr rfl, _, (.cons (.many 4 (vs := [_, _, _, _]) rfl rfl (by kernel_rfl) rfl rfl) (.cons (.tmp 5 (A := .val _) rfl (fun _ h => by cases h)) .nil)), ?_, rfl⟩
      unfold wMergeW
      rw [hI]
      rfl
    · have hI : wMergeIs x y = false := by unfold wMergeIs; rw [decide_eq_false ho, Bool.and_false]
      repeat' (first | refine stpWalkP_1 ?_ | refine stp ?_ | (refine stq ?_ ?_ <;> intro _))
      refine ⟨by first | exact .inl rfl | exact .inr rfl, _, (.cons (.many 4 (vs := [_, _, _, _]) rfl rfl (by kernel_rfl) rfl rfl) (.cons (.tmp 5 (A := .val _) rfl (fun _ h => by cases h)) .nil)), ?_, rfl⟩
      unfold wMergeW
      rw [hI]
      rfl
  · have hm' : ¬ (⟨x.m.x, x.m.y⟩ : A2) = ⟨y.m.x, y.m.y⟩ := fun h => hm h
    have hI : wMergeIs x y = false := by unfold wMergeIs; rw [decide_eq_false hm, Bool.false_and]
    repeat' (first | refine stpWalkP_1 ?_ | refine stp ?_ | (refine stq ?_ ?_ <;> intro _))
    refine ⟨by first | exact .inl rfl | exact .inr rfl, _, (.cons (.many 4 (vs := [_, _, _, _]) rfl rfl (by kernel_rfl) rfl rfl) (.cons (.tmp 5 (A := .val _) rfl (fun _ h => by cases h)) .nil)), ?_, rfl⟩
    unfold wMergeW
    rw [hI]
    rfl
end Go.Proofs.YtjmnnkhdadoehaaGreat
