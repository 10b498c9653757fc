/- Abstract contracts of the calls that are known. -/
import Derived.Test.YtmmibfjhjbjgeaaZAbs3
import Derived.Test.YtmmibfjhjbjgeaaZWalkB
import Derived.Test.YtmmibfjhjbjgeaaZWalkE
import Derived.Test.YtmmibfjhjbjgeaaZWalkF
import Derived.Test.YtmmibfjhjbjgeaaZWalkG
import Derived.Test.YtmmibfjhjbjgeaaZWalkR2
import Derived.Test.YtmmibfjhjbjgeaaZWalkT
import Derived.Test.YtmmibfjhjbjgeaaZWalkX
namespace Go.Proofs.Ytmmibfjhjbjgeaa
set_option linter.unusedSimpArgs false
set_option linter.unusedVariables false
open Go Go.RowKit Go.Shelf
theorem lenE (x : Ent) : (encE x).length = 6 := rfl
theorem posE (x : Ent) : encE x ≠ [] := by simp [encE]
theorem oneE (x : Ent) : ∀ u ∈ encE x, u.oneCell' = true := by
  intro u hu
  simp only [encE, List.mem_cons, List.not_mem_nil, or_false] at hu
  rcases hu with rfl | rfl | rfl | rfl | rfl | rfl <;> rfl
set_option maxRecDepth 100000 in
theorem lit_22_1 {N : Nat} {K0 : Know} {w0 : Bas} {S : St} {d : Option Nat} {ty : TypeId} {pos : String} {aft : Array Edge} {g : Option (Nat × Bool)} {x0 : Operand} {a0_0 : Int} {a0_1 : Int} {a0_2 : Int} {a0_3 : Int} {a0_4 : Int} {a0_5 : Int} (h0 : S.opv x0 = .val (Value.agg #[.int .u64 a0_0, .int .u64 a0_1, .int .u64 a0_2, .int .u64 a0_3, .int .i64 a0_4, .int .i64 a0_5])) :
    OpH Try.prog N K0 w0 ⟨d, .buildSlice 22 1 #[(0, x0)], ty, pos, aft, g⟩ S (.full 6 (([(⟨⟨⟨a0_0, a0_1⟩, ⟨a0_2, a0_3⟩⟩, a0_4, a0_5⟩ : Ent)] : List Ent).map encE)) := by
  have he0 : S.ev x0 = Value.agg #[.int .u64 a0_0, .int .u64 a0_1, .int .u64 a0_2, .int .u64 a0_3, .int .i64 a0_4, .int .i64 a0_5] := by unfold St.ev; rw [h0]
  exact OpH.lit (t := 22) (e := 45) (k := 6) (xs := [[.int .u64 a0_0, .int .u64 a0_1, .int .u64 a0_2, .int .u64 a0_3, .int .i64 a0_4, .int .i64 a0_5]]) (by kernel_rfl) (by simp [h0, AV.isVal]) (by simp [he0, Value.cells]) (by simp only [List.map_toArray, List.map_cons, List.map_nil, he0]; kernel_rfl) rfl rfl rfl
set_option maxRecDepth 100000 in
theorem lit_22_2 {N : Nat} {K0 : Know} {w0 : Bas} {S : St} {d : Option Nat} {ty : TypeId} {pos : String} {aft : Array Edge} {g : Option (Nat × Bool)} {x0 x1 : Operand} {a0_0 : Int} {a0_1 : Int} {a0_2 : Int} {a0_3 : Int} {a0_4 : Int} {a0_5 : Int} {a1_0 : Int} {a1_1 : Int} {a1_2 : Int} {a1_3 : Int} {a1_4 : Int} {a1_5 : Int} (h0 : S.opv x0 = .val (Value.agg #[.int .u64 a0_0, .int .u64 a0_1, .int .u64 a0_2, .int .u64 a0_3, .int .i64 a0_4, .int .i64 a0_5])) (h1 : S.opv x1 = .val (Value.agg #[.int .u64 a1_0, .int .u64 a1_1, .int .u64 a1_2, .int .u64 a1_3, .int .i64 a1_4, .int .i64 a1_5])) :
    OpH Try.prog N K0 w0 ⟨d, .buildSlice 22 2 #[(0, x0), (1, x1)], ty, pos, aft, g⟩ S (.full 6 (([(⟨⟨⟨a0_0, a0_1⟩, ⟨a0_2, a0_3⟩⟩, a0_4, a0_5⟩ : Ent), (⟨⟨⟨a1_0, a1_1⟩, ⟨a1_2, a1_3⟩⟩, a1_4, a1_5⟩ : Ent)] : List Ent).map encE)) := by
  have he0 : S.ev x0 = Value.agg #[.int .u64 a0_0, .int .u64 a0_1, .int .u64 a0_2, .int .u64 a0_3, .int .i64 a0_4, .int .i64 a0_5] := by unfold St.ev; rw [h0]
  have he1 : S.ev x1 = Value.agg #[.int .u64 a1_0, .int .u64 a1_1, .int .u64 a1_2, .int .u64 a1_3, .int .i64 a1_4, .int .i64 a1_5] := by unfold St.ev; rw [h1]
  exact OpH.lit (t := 22) (e := 45) (k := 6) (xs := [[.int .u64 a0_0, .int .u64 a0_1, .int .u64 a0_2, .int .u64 a0_3, .int .i64 a0_4, .int .i64 a0_5], [.int .u64 a1_0, .int .u64 a1_1, .int .u64 a1_2, .int .u64 a1_3, .int .i64 a1_4, .int .i64 a1_5]]) (by kernel_rfl) (by simp [h0, h1, AV.isVal]) (by simp [he0, he1, Value.cells]) (by simp only [List.map_toArray, List.map_cons, List.map_nil, he0, he1]; kernel_rfl) rfl rfl rfl
set_option maxRecDepth 100000 in
theorem lit_25_1 {N : Nat} {K0 : Know} {w0 : Bas} {S : St} {d : Option Nat} {ty : TypeId} {pos : String} {aft : Array Edge} {g : Option (Nat × Bool)} {x0 : Operand} {a0_0 : Int} {a0_1 : Int} {a0_2 : Int} {a0_3 : Int} {a0_4 : Int} {a0_5 : Int} (h0 : S.opv x0 = .val (Value.agg #[.int .u64 a0_0, .int .u64 a0_1, .int .u64 a0_2, .int .u64 a0_3, .int .i64 a0_4, .int .i64 a0_5])) :
    OpH Try.prog N K0 w0 ⟨d, .buildSlice 25 1 #[(0, x0)], ty, pos, aft, g⟩ S (.full 6 (([(⟨⟨⟨a0_0, a0_1⟩, ⟨a0_2, a0_3⟩⟩, a0_4, a0_5⟩ : Ent)] : List Ent).map encE)) := by
  have he0 : S.ev x0 = Value.agg #[.int .u64 a0_0, .int .u64 a0_1, .int .u64 a0_2, .int .u64 a0_3, .int .i64 a0_4, .int .i64 a0_5] := by unfold St.ev; rw [h0]
  exact OpH.lit (t := 25) (e := 37) (k := 6) (xs := [[.int .u64 a0_0, .int .u64 a0_1, .int .u64 a0_2, .int .u64 a0_3, .int .i64 a0_4, .int .i64 a0_5]]) (by kernel_rfl) (by simp [h0, AV.isVal]) (by simp [he0, Value.cells]) (by simp only [List.map_toArray, List.map_cons, List.map_nil, he0]; kernel_rfl) rfl rfl rfl
set_option maxRecDepth 100000 in
theorem lit_27_1 {N : Nat} {K0 : Know} {w0 : Bas} {S : St} {d : Option Nat} {ty : TypeId} {pos : String} {aft : Array Edge} {g : Option (Nat × Bool)} {x0 : Operand} {a0_0 : Int} {a0_1 : Int} {a0_2 : Int} {a0_3 : Int} {a0_4 : Int} {a0_5 : Int} {a0_6 : Int} (h0 : S.opv x0 = .val (Value.agg #[.int .i64 a0_0, .int .u64 a0_1, .int .u64 a0_2, .int .u64 a0_3, .int .u64 a0_4, .int .i64 a0_5, .int .i64 a0_6])) :
    OpH Try.prog N K0 w0 ⟨d, .buildSlice 27 1 #[(0, x0)], ty, pos, aft, g⟩ S (.full 7 (([(⟨a0_0, ⟨⟨⟨a0_1, a0_2⟩, ⟨a0_3, a0_4⟩⟩, a0_5, a0_6⟩⟩ : Stp)] : List Stp).map encD)) := by
  have he0 : S.ev x0 = Value.agg #[.int .i64 a0_0, .int .u64 a0_1, .int .u64 a0_2, .int .u64 a0_3, .int .u64 a0_4, .int .i64 a0_5, .int .i64 a0_6] := by unfold St.ev; rw [h0]
  exact OpH.lit (t := 27) (e := 47) (k := 7) (xs := [[.int .i64 a0_0, .int .u64 a0_1, .int .u64 a0_2, .int .u64 a0_3, .int .u64 a0_4, .int .i64 a0_5, .int .i64 a0_6]]) (by kernel_rfl) (by simp [h0, AV.isVal]) (by simp [he0, Value.cells]) (by simp only [List.map_toArray, List.map_cons, List.map_nil, he0]; kernel_rfl) rfl rfl rfl
set_option maxRecDepth 100000 in
theorem lit_29_1 {N : Nat} {K0 : Know} {w0 : Bas} {S : St} {d : Option Nat} {ty : TypeId} {pos : String} {aft : Array Edge} {g : Option (Nat × Bool)} {x0 : Operand} {a0_0 : Int} {a0_1 : Int} {a0_2 : Int} {a0_3 : Int} {a0_4 : Int} {a0_5 : Int} {a0_6 : Int} (h0 : S.opv x0 = .val (Value.agg #[.int .i64 a0_0, .int .u64 a0_1, .int .u64 a0_2, .int .u64 a0_3, .int .u64 a0_4, .int .i64 a0_5, .int .i64 a0_6])) :
    OpH Try.prog N K0 w0 ⟨d, .buildSlice 29 1 #[(0, x0)], ty, pos, aft, g⟩ S (.full 7 (([(⟨a0_0, ⟨⟨⟨a0_1, a0_2⟩, ⟨a0_3, a0_4⟩⟩, a0_5, a0_6⟩⟩ : Stp)] : List Stp).map encD)) := by
  have he0 : S.ev x0 = Value.agg #[.int .i64 a0_0, .int .u64 a0_1, .int .u64 a0_2, .int .u64 a0_3, .int .u64 a0_4, .int .i64 a0_5, .int .i64 a0_6] := by unfold St.ev; rw [h0]
  exact OpH.lit (t := 29) (e := 39) (k := 7) (xs := [[.int .i64 a0_0, .int .u64 a0_1, .int .u64 a0_2, .int .u64 a0_3, .int .u64 a0_4, .int .i64 a0_5, .int .i64 a0_6]]) (by kernel_rfl) (by simp [h0, AV.isVal]) (by simp [he0, Value.cells]) (by simp only [List.map_toArray, List.map_cons, List.map_nil, he0]; kernel_rfl) rfl rfl rfl
set_option maxRecDepth 100000 in
theorem lit_125_4 {N : Nat} {K0 : Know} {w0 : Bas} {S : St} {d : Option Nat} {ty : TypeId} {pos : String} {aft : Array Edge} {g : Option (Nat × Bool)} {x0 x1 x2 x3 : Operand} {a0 : Int} {a1 : Int} {a2 : Int} {a3 : Int} (h0 : S.opv x0 = .val (.int .i64 a0)) (h1 : S.opv x1 = .val (.int .i64 a1)) (h2 : S.opv x2 = .val (.int .i64 a2)) (h3 : S.opv x3 = .val (.int .i64 a3)) :
    OpH Try.prog N K0 w0 ⟨d, .buildSlice 125 4 #[(0, x0), (1, x1), (2, x2), (3, x3)], ty, pos, aft, g⟩ S (.full 1 (([a0, a1, a2, a3] : List Int).map encI)) := by
  have he0 : S.ev x0 = .int .i64 a0 := by unfold St.ev; rw [h0]
  have he1 : S.ev x1 = .int .i64 a1 := by unfold St.ev; rw [h1]
  have he2 : S.ev x2 = .int .i64 a2 := by unfold St.ev; rw [h2]
  have he3 : S.ev x3 = .int .i64 a3 := by unfold St.ev; rw [h3]
  exact OpH.lit (t := 125) (e := 3) (k := 1) (xs := [[.int .i64 a0], [.int .i64 a1], [.int .i64 a2], [.int .i64 a3]]) (by kernel_rfl) (by simp [h0, h1, h2, h3, AV.isVal]) (by simp [he0, he1, he2, he3, Value.cells]) (by simp only [List.map_toArray, List.map_cons, List.map_nil, he0, he1, he2, he3]; kernel_rfl) rfl rfl rfl
set_option maxRecDepth 100000 in
theorem lit_81_1 {N : Nat} {K0 : Know} {w0 : Bas} {S : St} {d : Option Nat} {ty : TypeId} {pos : String} {aft : Array Edge} {g : Option (Nat × Bool)} {x0 : Operand} {a0_0 : Int} {a0_1 : Int} {a0_2 : Int} {a0_3 : Int} (h0 : S.opv x0 = .val (Value.agg #[.int .u64 a0_0, .int .u64 a0_1, .int .i64 a0_2, .int .i64 a0_3])) :
    OpH Try.prog N K0 w0 ⟨d, .buildSlice 81 1 #[(0, x0)], ty, pos, aft, g⟩ S (.full 4 (([(⟨⟨⟨a0_0, a0_1⟩, a0_2⟩, a0_3⟩ : Rte)] : List Rte).map encR)) := by
  have he0 : S.ev x0 = Value.agg #[.int .u64 a0_0, .int .u64 a0_1, .int .i64 a0_2, .int .i64 a0_3] := by unfold St.ev; rw [h0]
  exact OpH.lit (t := 81) (e := 105) (k := 4) (xs := [[.int .u64 a0_0, .int .u64 a0_1, .int .i64 a0_2, .int .i64 a0_3]]) (by kernel_rfl) (by simp [h0, AV.isVal]) (by simp [he0, Value.cells]) (by simp only [List.map_toArray, List.map_cons, List.map_nil, he0]; kernel_rfl) rfl rfl rfl
set_option maxRecDepth 100000 in
theorem lit_57_1 {N : Nat} {K0 : Know} {w0 : Bas} {S : St} {d : Option Nat} {ty : TypeId} {pos : String} {aft : Array Edge} {g : Option (Nat × Bool)} {x0 : Operand} {a0_0 : Int} {a0_1 : Int} {a0_2 : Int} {a0_3 : Int} (h0 : S.opv x0 = .val (Value.agg #[.int .u64 a0_0, .int .u64 a0_1, .int .i64 a0_2, .int .i64 a0_3])) :
    OpH Try.prog N K0 w0 ⟨d, .buildSlice 57 1 #[(0, x0)], ty, pos, aft, g⟩ S (.full 4 (([(⟨⟨⟨a0_0, a0_1⟩, a0_2⟩, a0_3⟩ : Rte)] : List Rte).map encR)) := by
  have he0 : S.ev x0 = Value.agg #[.int .u64 a0_0, .int .u64 a0_1, .int .i64 a0_2, .int .i64 a0_3] := by unfold St.ev; rw [h0]
  exact OpH.lit (t := 57) (e := 86) (k := 4) (xs := [[.int .u64 a0_0, .int .u64 a0_1, .int .i64 a0_2, .int .i64 a0_3]]) (by kernel_rfl) (by simp [h0, AV.isVal]) (by simp [he0, Value.cells]) (by simp only [List.map_toArray, List.map_cons, List.map_nil, he0]; kernel_rfl) rfl rfl rfl
set_option maxRecDepth 100000 in
theorem build_41_0 {N : Nat} {K0 : Know} {w0 : Bas} {S : St} {d : Option Nat} {ty : TypeId} {pos : String} {aft : Array Edge} {g : Option (Nat × Bool)} {x0 : Operand} {c0_0 : Int} (h0 : S.opv x0 = .val ((.int .u64 c0_0 : Value))) :
    OpH Try.prog N K0 w0 ⟨d, .build 41 #[(0, x0)], ty, pos, aft, g⟩ S (.val (.agg #[.int .u64 c0_0, .int .u64 0])) := by
  have he0 : S.ev x0 = (.int .u64 c0_0 : Value) := by unfold St.ev; rw [h0]
  exact OpH.build (t := 41) (by simp [h0,  AV.isVal]) (by simp only [List.map_toArray, List.map_cons, List.map_nil, he0]; kernel_rfl)
set_option maxRecDepth 100000 in
theorem build_47_0_1 {N : Nat} {K0 : Know} {w0 : Bas} {S : St} {d : Option Nat} {ty : TypeId} {pos : String} {aft : Array Edge} {g : Option (Nat × Bool)} {x0 x1 : Operand} {c0_0 : Int} {c1_0 : Int} {c1_1 : Int} {c1_2 : Int} {c1_3 : Int} {c1_4 : Int} {c1_5 : Int} (h0 : S.opv x0 = .val ((.int .i64 c0_0 : Value))) (h1 : S.opv x1 = .val (Value.agg #[.int .u64 c1_0, .int .u64 c1_1, .int .u64 c1_2, .int .u64 c1_3, .int .i64 c1_4, .int .i64 c1_5])) :
    OpH Try.prog N K0 w0 ⟨d, .build 47 #[(0, x0), (1, x1)], ty, pos, aft, g⟩ S (.val (.agg #[.int .i64 c0_0, .int .u64 c1_0, .int .u64 c1_1, .int .u64 c1_2, .int .u64 c1_3, .int .i64 c1_4, .int .i64 c1_5])) := by
  have he0 : S.ev x0 = (.int .i64 c0_0 : Value) := by unfold St.ev; rw [h0]
  have he1 : S.ev x1 = Value.agg #[.int .u64 c1_0, .int .u64 c1_1, .int .u64 c1_2, .int .u64 c1_3, .int .i64 c1_4, .int .i64 c1_5] := by unfold St.ev; rw [h1]
  exact OpH.build (t := 47) (by simp [h0, h1,  AV.isVal]) (by simp only [List.map_toArray, List.map_cons, List.map_nil, he0, he1]; kernel_rfl)
set_option maxRecDepth 100000 in
theorem build_31_0_1_2 {N : Nat} {K0 : Know} {w0 : Bas} {S : St} {d : Option Nat} {ty : TypeId} {pos : String} {aft : Array Edge} {g : Option (Nat × Bool)} {x0 x1 x2 : Operand} {c0_0 : Int} {c1_0 : Int} {c2_0 : Int} (h0 : S.opv x0 = .val ((.int .i64 c0_0 : Value))) (h1 : S.opv x1 = .val ((.int .i64 c1_0 : Value))) (h2 : S.opv x2 = .val ((.int .i64 c2_0 : Value))) :
    OpH Try.prog N K0 w0 ⟨d, .build 31 #[(0, x0), (1, x1), (2, x2)], ty, pos, aft, g⟩ S (.val (.agg #[.int .i64 c0_0, .int .i64 c1_0, .int .i64 c2_0])) := by
  have he0 : S.ev x0 = (.int .i64 c0_0 : Value) := by unfold St.ev; rw [h0]
  have he1 : S.ev x1 = (.int .i64 c1_0 : Value) := by unfold St.ev; rw [h1]
  have he2 : S.ev x2 = (.int .i64 c2_0 : Value) := by unfold St.ev; rw [h2]
  exact OpH.build (t := 31) (by simp [h0, h1, h2,  AV.isVal]) (by simp only [List.map_toArray, List.map_cons, List.map_nil, he0, he1, he2]; kernel_rfl)
set_option maxRecDepth 100000 in
theorem build_39_0_1 {N : Nat} {K0 : Know} {w0 : Bas} {S : St} {d : Option Nat} {ty : TypeId} {pos : String} {aft : Array Edge} {g : Option (Nat × Bool)} {x0 x1 : Operand} {c0_0 : Int} {c1_0 : Int} {c1_1 : Int} {c1_2 : Int} {c1_3 : Int} {c1_4 : Int} {c1_5 : Int} (h0 : S.opv x0 = .val ((.int .i64 c0_0 : Value))) (h1 : S.opv x1 = .val (Value.agg #[.int .u64 c1_0, .int .u64 c1_1, .int .u64 c1_2, .int .u64 c1_3, .int .i64 c1_4, .int .i64 c1_5])) :
    OpH Try.prog N K0 w0 ⟨d, .build 39 #[(0, x0), (1, x1)], ty, pos, aft, g⟩ S (.val (.agg #[.int .i64 c0_0, .int .u64 c1_0, .int .u64 c1_1, .int .u64 c1_2, .int .u64 c1_3, .int .i64 c1_4, .int .i64 c1_5])) := by
  have he0 : S.ev x0 = (.int .i64 c0_0 : Value) := by unfold St.ev; rw [h0]
  have he1 : S.ev x1 = Value.agg #[.int .u64 c1_0, .int .u64 c1_1, .int .u64 c1_2, .int .u64 c1_3, .int .i64 c1_4, .int .i64 c1_5] := by unfold St.ev; rw [h1]
  exact OpH.build (t := 39) (by simp [h0, h1,  AV.isVal]) (by simp only [List.map_toArray, List.map_cons, List.map_nil, he0, he1]; kernel_rfl)
set_option maxRecDepth 100000 in
theorem build_45_0_1_2 {N : Nat} {K0 : Know} {w0 : Bas} {S : St} {d : Option Nat} {ty : TypeId} {pos : String} {aft : Array Edge} {g : Option (Nat × Bool)} {x0 x1 x2 : Operand} {c0_0 : Int} {c0_1 : Int} {c0_2 : Int} {c0_3 : Int} {c1_0 : Int} {c2_0 : Int} (h0 : S.opv x0 = .val (Value.agg #[.int .u64 c0_0, .int .u64 c0_1, .int .u64 c0_2, .int .u64 c0_3])) (h1 : S.opv x1 = .val ((.int .i64 c1_0 : Value))) (h2 : S.opv x2 = .val ((.int .i64 c2_0 : Value))) :
    OpH Try.prog N K0 w0 ⟨d, .build 45 #[(0, x0), (1, x1), (2, x2)], ty, pos, aft, g⟩ S (.val (.agg #[.int .u64 c0_0, .int .u64 c0_1, .int .u64 c0_2, .int .u64 c0_3, .int .i64 c1_0, .int .i64 c2_0])) := by
  have he0 : S.ev x0 = Value.agg #[.int .u64 c0_0, .int .u64 c0_1, .int .u64 c0_2, .int .u64 c0_3] := by unfold St.ev; rw [h0]
  have he1 : S.ev x1 = (.int .i64 c1_0 : Value) := by unfold St.ev; rw [h1]
  have he2 : S.ev x2 = (.int .i64 c2_0 : Value) := by unfold St.ev; rw [h2]
  exact OpH.build (t := 45) (by simp [h0, h1, h2,  AV.isVal]) (by simp only [List.map_toArray, List.map_cons, List.map_nil, he0, he1, he2]; kernel_rfl)
set_option maxRecDepth 100000 in
theorem build_63_0_1 {N : Nat} {K0 : Know} {w0 : Bas} {S : St} {d : Option Nat} {ty : TypeId} {pos : String} {aft : Array Edge} {g : Option (Nat × Bool)} {x0 x1 : Operand} {c0_0 : Int} {c0_1 : Int} {c1_0 : Int} (h0 : S.opv x0 = .val (Value.agg #[.int .u64 c0_0, .int .u64 c0_1])) (h1 : S.opv x1 = .val ((.int .i64 c1_0 : Value))) :
    OpH Try.prog N K0 w0 ⟨d, .build 63 #[(0, x0), (1, x1)], ty, pos, aft, g⟩ S (.val (.agg #[.int .u64 c0_0, .int .u64 c0_1, .int .i64 c1_0])) := by
  have he0 : S.ev x0 = Value.agg #[.int .u64 c0_0, .int .u64 c0_1] := by unfold St.ev; rw [h0]
  have he1 : S.ev x1 = (.int .i64 c1_0 : Value) := by unfold St.ev; rw [h1]
  exact OpH.build (t := 63) (by simp [h0, h1,  AV.isVal]) (by simp only [List.map_toArray, List.map_cons, List.map_nil, he0, he1]; kernel_rfl)
set_option maxRecDepth 100000 in
theorem build_37_0_1_2 {N : Nat} {K0 : Know} {w0 : Bas} {S : St} {d : Option Nat} {ty : TypeId} {pos : String} {aft : Array Edge} {g : Option (Nat × Bool)} {x0 x1 x2 : Operand} {c0_0 : Int} {c0_1 : Int} {c0_2 : Int} {c0_3 : Int} {c1_0 : Int} {c2_0 : Int} (h0 : S.opv x0 = .val (Value.agg #[.int .u64 c0_0, .int .u64 c0_1, .int .u64 c0_2, .int .u64 c0_3])) (h1 : S.opv x1 = .val ((.int .i64 c1_0 : Value))) (h2 : S.opv x2 = .val ((.int .i64 c2_0 : Value))) :
    OpH Try.prog N K0 w0 ⟨d, .build 37 #[(0, x0), (1, x1), (2, x2)], ty, pos, aft, g⟩ S (.val (.agg #[.int .u64 c0_0, .int .u64 c0_1, .int .u64 c0_2, .int .u64 c0_3, .int .i64 c1_0, .int .i64 c2_0])) := by
  have he0 : S.ev x0 = Value.agg #[.int .u64 c0_0, .int .u64 c0_1, .int .u64 c0_2, .int .u64 c0_3] := by unfold St.ev; rw [h0]
  have he1 : S.ev x1 = (.int .i64 c1_0 : Value) := by unfold St.ev; rw [h1]
  have he2 : S.ev x2 = (.int .i64 c2_0 : Value) := by unfold St.ev; rw [h2]
  exact OpH.build (t := 37) (by simp [h0, h1, h2,  AV.isVal]) (by simp only [List.map_toArray, List.map_cons, List.map_nil, he0, he1, he2]; kernel_rfl)
set_option maxRecDepth 100000 in
theorem build_43_0_1 {N : Nat} {K0 : Know} {w0 : Bas} {S : St} {d : Option Nat} {ty : TypeId} {pos : String} {aft : Array Edge} {g : Option (Nat × Bool)} {x0 x1 : Operand} {c0_0 : Int} {c0_1 : Int} {c1_0 : Int} {c1_1 : Int} (h0 : S.opv x0 = .val (Value.agg #[.int .u64 c0_0, .int .u64 c0_1])) (h1 : S.opv x1 = .val (Value.agg #[.int .u64 c1_0, .int .u64 c1_1])) :
    OpH Try.prog N K0 w0 ⟨d, .build 43 #[(0, x0), (1, x1)], ty, pos, aft, g⟩ S (.val (.agg #[.int .u64 c0_0, .int .u64 c0_1, .int .u64 c1_0, .int .u64 c1_1])) := by
  have he0 : S.ev x0 = Value.agg #[.int .u64 c0_0, .int .u64 c0_1] := by unfold St.ev; rw [h0]
  have he1 : S.ev x1 = Value.agg #[.int .u64 c1_0, .int .u64 c1_1] := by unfold St.ev; rw [h1]
  exact OpH.build (t := 43) (by simp [h0, h1,  AV.isVal]) (by simp only [List.map_toArray, List.map_cons, List.map_nil, he0, he1]; kernel_rfl)
set_option maxRecDepth 100000 in
theorem build_35_0_1 {N : Nat} {K0 : Know} {w0 : Bas} {S : St} {d : Option Nat} {ty : TypeId} {pos : String} {aft : Array Edge} {g : Option (Nat × Bool)} {x0 x1 : Operand} {c0_0 : Int} {c0_1 : Int} {c1_0 : Int} {c1_1 : Int} (h0 : S.opv x0 = .val (Value.agg #[.int .u64 c0_0, .int .u64 c0_1])) (h1 : S.opv x1 = .val (Value.agg #[.int .u64 c1_0, .int .u64 c1_1])) :
    OpH Try.prog N K0 w0 ⟨d, .build 35 #[(0, x0), (1, x1)], ty, pos, aft, g⟩ S (.val (.agg #[.int .u64 c0_0, .int .u64 c0_1, .int .u64 c1_0, .int .u64 c1_1])) := by
  have he0 : S.ev x0 = Value.agg #[.int .u64 c0_0, .int .u64 c0_1] := by unfold St.ev; rw [h0]
  have he1 : S.ev x1 = Value.agg #[.int .u64 c1_0, .int .u64 c1_1] := by unfold St.ev; rw [h1]
  exact OpH.build (t := 35) (by simp [h0, h1,  AV.isVal]) (by simp only [List.map_toArray, List.map_cons, List.map_nil, he0, he1]; kernel_rfl)
set_option maxRecDepth 100000 in
theorem build_105_0_1 {N : Nat} {K0 : Know} {w0 : Bas} {S : St} {d : Option Nat} {ty : TypeId} {pos : String} {aft : Array Edge} {g : Option (Nat × Bool)} {x0 x1 : Operand} {c0_0 : Int} {c0_1 : Int} {c0_2 : Int} {c1_0 : Int} (h0 : S.opv x0 = .val (Value.agg #[.int .u64 c0_0, .int .u64 c0_1, .int .i64 c0_2])) (h1 : S.opv x1 = .val ((.int .i64 c1_0 : Value))) :
    OpH Try.prog N K0 w0 ⟨d, .build 105 #[(0, x0), (1, x1)], ty, pos, aft, g⟩ S (.val (.agg #[.int .u64 c0_0, .int .u64 c0_1, .int .i64 c0_2, .int .i64 c1_0])) := by
  have he0 : S.ev x0 = Value.agg #[.int .u64 c0_0, .int .u64 c0_1, .int .i64 c0_2] := by unfold St.ev; rw [h0]
  have he1 : S.ev x1 = (.int .i64 c1_0 : Value) := by unfold St.ev; rw [h1]
  exact OpH.build (t := 105) (by simp [h0, h1,  AV.isVal]) (by simp only [List.map_toArray, List.map_cons, List.map_nil, he0, he1]; kernel_rfl)
set_option maxRecDepth 100000 in
theorem build_43_ {N : Nat} {K0 : Know} {w0 : Bas} {S : St} {d : Option Nat} {ty : TypeId} {pos : String} {aft : Array Edge} {g : Option (Nat × Bool)}    :
    OpH Try.prog N K0 w0 ⟨d, .build 43 #[], ty, pos, aft, g⟩ S (.val (.agg #[.int .u64 0, .int .u64 0, .int .u64 0, .int .u64 0])) := by
  skip
  exact OpH.build (t := 43) (by simp [ AV.isVal]) (by simp only [List.map_toArray, List.map_cons, List.map_nil, ]; kernel_rfl)
set_option maxRecDepth 100000 in
theorem build_41_0_1 {N : Nat} {K0 : Know} {w0 : Bas} {S : St} {d : Option Nat} {ty : TypeId} {pos : String} {aft : Array Edge} {g : Option (Nat × Bool)} {x0 x1 : Operand} {c0_0 : Int} {c1_0 : Int} (h0 : S.opv x0 = .val ((.int .u64 c0_0 : Value))) (h1 : S.opv x1 = .val ((.int .u64 c1_0 : Value))) :
    OpH Try.prog N K0 w0 ⟨d, .build 41 #[(0, x0), (1, x1)], ty, pos, aft, g⟩ S (.val (.agg #[.int .u64 c0_0, .int .u64 c1_0])) := by
  have he0 : S.ev x0 = (.int .u64 c0_0 : Value) := by unfold St.ev; rw [h0]
  have he1 : S.ev x1 = (.int .u64 c1_0 : Value) := by unfold St.ev; rw [h1]
  exact OpH.build (t := 41) (by simp [h0, h1,  AV.isVal]) (by simp only [List.map_toArray, List.map_cons, List.map_nil, he0, he1]; kernel_rfl)
set_option maxRecDepth 100000 in
theorem build_103_0_1 {N : Nat} {K0 : Know} {w0 : Bas} {S : St} {d : Option Nat} {ty : TypeId} {pos : String} {aft : Array Edge} {g : Option (Nat × Bool)} {x0 x1 : Operand} {c0_0 : Int} {c0_1 : Int} {c1_0 : Int} (h0 : S.opv x0 = .val (Value.agg #[.int .u64 c0_0, .int .u64 c0_1])) (h1 : S.opv x1 = .val ((.int .i64 c1_0 : Value))) :
    OpH Try.prog N K0 w0 ⟨d, .build 103 #[(0, x0), (1, x1)], ty, pos, aft, g⟩ S (.val (.agg #[.int .u64 c0_0, .int .u64 c0_1, .int .i64 c1_0])) := by
  have he0 : S.ev x0 = Value.agg #[.int .u64 c0_0, .int .u64 c0_1] := by unfold St.ev; rw [h0]
  have he1 : S.ev x1 = (.int .i64 c1_0 : Value) := by unfold St.ev; rw [h1]
  exact OpH.build (t := 103) (by simp [h0, h1,  AV.isVal]) (by simp only [List.map_toArray, List.map_cons, List.map_nil, he0, he1]; kernel_rfl)
theorem g_And (a0 a1 : Int) (b0 b1 : Int) : Good Try.prog 69 [.val (.agg #[.int .u64 a0, .int .u64 a1]), .val (.agg #[.int .u64 b0, .int .u64 b1])] (.val (.agg #[.int .u64 (aAnd (⟨a0, a1⟩ : A2) (⟨b0, b1⟩ : A2)).x, .int .u64 (aAnd (⟨a0, a1⟩ : A2) (⟨b0, b1⟩ : A2)).y])) := Good.vals (args := [.agg #[.int .u64 a0, .int .u64 a1], .agg #[.int .u64 b0, .int .u64 b1]]) rfl fun w => c_And a0 a1 b0 b1 w
theorem g_Xor (a0 a1 : Int) (b0 b1 : Int) : Good Try.prog 96 [.val (.agg #[.int .u64 a0, .int .u64 a1]), .val (.agg #[.int .u64 b0, .int .u64 b1])] (.val (.agg #[.int .u64 (aXor (⟨a0, a1⟩ : A2) (⟨b0, b1⟩ : A2)).x, .int .u64 (aXor (⟨a0, a1⟩ : A2) (⟨b0, b1⟩ : A2)).y])) := Good.vals (args := [.agg #[.int .u64 a0, .int .u64 a1], .agg #[.int .u64 b0, .int .u64 b1]]) rfl fun w => c_Xor a0 a1 b0 b1 w
theorem g_differ (a0 a1 : Int) (b0 b1 : Int) (m0 m1 : Int) : Good Try.prog 93 [.val (.agg #[.int .u64 a0, .int .u64 a1]), .val (.agg #[.int .u64 b0, .int .u64 b1]), .val (.agg #[.int .u64 m0, .int .u64 m1])] (.val (.agg #[.int .u64 (aDiffer (⟨a0, a1⟩ : A2) (⟨b0, b1⟩ : A2) (⟨m0, m1⟩ : A2)).x, .int .u64 (aDiffer (⟨a0, a1⟩ : A2) (⟨b0, b1⟩ : A2) (⟨m0, m1⟩ : A2)).y])) := Good.vals (args := [.agg #[.int .u64 a0, .int .u64 a1], .agg #[.int .u64 b0, .int .u64 b1], .agg #[.int .u64 m0, .int .u64 m1]]) rfl fun w => c_differ a0 a1 b0 b1 m0 m1 w
theorem g_clean (x0 x1 x2 x3 : Int) : Good Try.prog 95 [.val (.agg #[.int .u64 x0, .int .u64 x1, .int .u64 x2, .int .u64 x3])] (.val (.agg #[.int .u64 (wClean (⟨⟨x0, x1⟩, ⟨x2, x3⟩⟩ : W2)).v.x, .int .u64 (wClean (⟨⟨x0, x1⟩, ⟨x2, x3⟩⟩ : W2)).v.y, .int .u64 (wClean (⟨⟨x0, x1⟩, ⟨x2, x3⟩⟩ : W2)).m.x, .int .u64 (wClean (⟨⟨x0, x1⟩, ⟨x2, x3⟩⟩ : W2)).m.y])) := Good.vals (args := [.agg #[.int .u64 x0, .int .u64 x1, .int .u64 x2, .int .u64 x3]]) rfl fun w => c_clean x0 x1 x2 x3 w
theorem g_Alike (x0 x1 x2 x3 x4 x5 : Int) (y0 y1 y2 y3 y4 y5 : Int) : Good Try.prog 35 [.val (.agg #[.int .u64 x0, .int .u64 x1, .int .u64 x2, .int .u64 x3, .int .i64 x4, .int .i64 x5]), .val (.agg #[.int .u64 y0, .int .u64 y1, .int .u64 y2, .int .u64 y3, .int .i64 y4, .int .i64 y5])] (.val (.bool (eAlike (⟨⟨⟨x0, x1⟩, ⟨x2, x3⟩⟩, x4, x5⟩ : Ent) (⟨⟨⟨y0, y1⟩, ⟨y2, y3⟩⟩, y4, y5⟩ : Ent)))) := Good.vals (args := [.agg #[.int .u64 x0, .int .u64 x1, .int .u64 x2, .int .u64 x3, .int .i64 x4, .int .i64 x5], .agg #[.int .u64 y0, .int .u64 y1, .int .u64 y2, .int .u64 y3, .int .i64 y4, .int .i64 y5]]) rfl fun w => c_Alike x0 x1 x2 x3 x4 x5 y0 y1 y2 y3 y4 y5 w
theorem g_isNaN (a : Int) : Good Try.prog 80 [.val (.int .i64 a)] (.val (.bool false)) := Good.vals (args := [.int .i64 a]) rfl fun w => c_isNaN a w
theorem g_cmpInt (a : Int) (b : Int) : Good Try.prog 57 [.val (.int .i64 a), .val (.int .i64 b)] (.val (.int .i64 (cmpInt a b))) := Good.vals (args := [.int .i64 a, .int .i64 b]) rfl fun w => c_cmpInt a b w
theorem g_addrCompare (a0 a1 : Int) (b0 b1 : Int) : Good Try.prog 58 [.val (.agg #[.int .u64 a0, .int .u64 a1]), .val (.agg #[.int .u64 b0, .int .u64 b1])] (.val (.int .i64 (aCompare (⟨a0, a1⟩ : A2) (⟨b0, b1⟩ : A2)))) := Good.vals (args := [.agg #[.int .u64 a0, .int .u64 a1], .agg #[.int .u64 b0, .int .u64 b1]]) rfl fun w => c_addrCompare a0 a1 b0 b1 w
theorem g_Mask (n : Int) : Good Try.prog 68 [.val (.int .i64 n)] (.val (.agg #[.int .u64 (aMask n).x, .int .u64 (aMask n).y])) := Good.vals (args := [.int .i64 n]) rfl fun w => c_Mask n w
theorem g_Cut (a0 a1 : Int) (n : Int) : Good Try.prog 49 [.val (.agg #[.int .u64 a0, .int .u64 a1]), .val (.int .i64 n)] (.val (.agg #[.int .u64 (aCut (⟨a0, a1⟩ : A2) n).x, .int .u64 (aCut (⟨a0, a1⟩ : A2) n).y])) := Good.vals (args := [.agg #[.int .u64 a0, .int .u64 a1], .int .i64 n]) rfl fun w => c_Cut a0 a1 n w
theorem g_pMake (a0 a1 : Int) (n : Int) : Good Try.prog 28 [.val (.agg #[.int .u64 a0, .int .u64 a1]), .val (.int .i64 n)] (.val (.agg #[.int .u64 (pMake (⟨a0, a1⟩ : A2) n).a.x, .int .u64 (pMake (⟨a0, a1⟩ : A2) n).a.y, .int .i64 (pMake (⟨a0, a1⟩ : A2) n).len])) := Good.vals (args := [.agg #[.int .u64 a0, .int .u64 a1], .int .i64 n]) rfl fun w => c_pMake a0 a1 n w
theorem g_wOf (p0 p1 p2 : Int) : Good Try.prog 48 [.val (.agg #[.int .u64 p0, .int .u64 p1, .int .i64 p2])] (.val (.agg #[.int .u64 (wOf (⟨⟨p0, p1⟩, p2⟩ : Pfx)).v.x, .int .u64 (wOf (⟨⟨p0, p1⟩, p2⟩ : Pfx)).v.y, .int .u64 (wOf (⟨⟨p0, p1⟩, p2⟩ : Pfx)).m.x, .int .u64 (wOf (⟨⟨p0, p1⟩, p2⟩ : Pfx)).m.y])) := Good.vals (args := [.agg #[.int .u64 p0, .int .u64 p1, .int .i64 p2]]) rfl fun w => c_wOf p0 p1 p2 w
theorem g_eOf (p0 p1 p2 : Int) (action : Int) : Good Try.prog 27 [.val (.agg #[.int .u64 p0, .int .u64 p1, .int .i64 p2]), .val (.int .i64 action)] (.val (.agg #[.int .u64 (eOf (⟨⟨p0, p1⟩, p2⟩ : Pfx) action).w.v.x, .int .u64 (eOf (⟨⟨p0, p1⟩, p2⟩ : Pfx) action).w.v.y, .int .u64 (eOf (⟨⟨p0, p1⟩, p2⟩ : Pfx) action).w.m.x, .int .u64 (eOf (⟨⟨p0, p1⟩, p2⟩ : Pfx) action).w.m.y, .int .i64 (eOf (⟨⟨p0, p1⟩, p2⟩ : Pfx) action).len, .int .i64 (eOf (⟨⟨p0, p1⟩, p2⟩ : Pfx) action).act])) := Good.vals (args := [.agg #[.int .u64 p0, .int .u64 p1, .int .i64 p2], .int .i64 action]) rfl fun w => c_eOf p0 p1 p2 action w
theorem g_law4Of (x0 x1 x2 x3 : Int) : Good Try.prog 50 [.val (.agg #[.int .u64 x0, .int .u64 x1, .int .u64 x2, .int .u64 x3])] (.val (.agg #[.int .u64 (⟨⟨x0, x1⟩, ⟨x2, x3⟩⟩ : W2).v.x, .int .u64 (⟨⟨x0, x1⟩, ⟨x2, x3⟩⟩ : W2).v.y, .int .u64 (⟨⟨x0, x1⟩, ⟨x2, x3⟩⟩ : W2).m.x, .int .u64 (⟨⟨x0, x1⟩, ⟨x2, x3⟩⟩ : W2).m.y])) := Good.vals (args := [.agg #[.int .u64 x0, .int .u64 x1, .int .u64 x2, .int .u64 x3]]) rfl fun w => c_law4Of x0 x1 x2 x3 w
theorem g_law5One (x0 x1 x2 x3 x4 x5 : Int) : Good Try.prog 29 [.val (.agg #[.int .u64 x0, .int .u64 x1, .int .u64 x2, .int .u64 x3, .int .i64 x4, .int .i64 x5])] (.val (.agg #[.int .u64 (⟨⟨⟨x0, x1⟩, ⟨x2, x3⟩⟩, x4, x5⟩ : Ent).w.v.x, .int .u64 (⟨⟨⟨x0, x1⟩, ⟨x2, x3⟩⟩, x4, x5⟩ : Ent).w.v.y, .int .u64 (⟨⟨⟨x0, x1⟩, ⟨x2, x3⟩⟩, x4, x5⟩ : Ent).w.m.x, .int .u64 (⟨⟨⟨x0, x1⟩, ⟨x2, x3⟩⟩, x4, x5⟩ : Ent).w.m.y, .int .i64 (⟨⟨⟨x0, x1⟩, ⟨x2, x3⟩⟩, x4, x5⟩ : Ent).len, .int .i64 (⟨⟨⟨x0, x1⟩, ⟨x2, x3⟩⟩, x4, x5⟩ : Ent).act])) := Good.vals (args := [.agg #[.int .u64 x0, .int .u64 x1, .int .u64 x2, .int .u64 x3, .int .i64 x4, .int .i64 x5]]) rfl fun w => c_law5One x0 x1 x2 x3 x4 x5 w
end Go.Proofs.Ytmmibfjhjbjgeaa
namespace Go.Proofs.Ytmmibfjhjbjgeaa
set_option linter.unusedSimpArgs false
set_option linter.unusedVariables false
open Go Go.RowKit Go.Shelf
theorem g_law5Of (xs : List Ent) (hm : xs.length ≤ 65536) : Good Try.prog 11 [.sl 6 (xs.map encE)] (.row 0 37 6 (xs.map encE)) :=
  Good.slRow (args := []) posE lenE oneE rfl fun A c w _ _ h => c_law5Of A c xs w h hm
theorem g_eSort (xs : List Ent) (hm : xs.length ≤ 65536) : Good Try.prog 21 [.sl 6 (xs.map encE)] (.row 0 45 6 ((sortE xs).map encE)) :=
  Good.slRow (args := []) posE lenE oneE rfl fun A c w _ hn h => (c_eSort A c xs w hn h hm).mono fun _ _ ⟨v, h1, h2, h3⟩ => ⟨v, h1, by rw [sortE_length]; exact h2, h3⟩
end Go.Proofs.Ytmmibfjhjbjgeaa
namespace Go.Proofs.Ytmmibfjhjbjgeaa
set_option linter.unusedSimpArgs false
set_option linter.unusedVariables false
open Go Go.RowKit Go.Shelf
theorem g_eOfP (p0 p1 p2 action : Int) : Good Try.prog 27 [.val (.agg #[.int .u64 p0, .int .u64 p1, .int .i64 p2]), .val (.int .i64 action)] (.val (.agg #[.int .u64 (pMake ⟨p0, p1⟩ p2).a.x, .int .u64 (pMake ⟨p0, p1⟩ p2).a.y, .int .u64 (aMask (pMake ⟨p0, p1⟩ p2).len).x, .int .u64 (aMask (pMake ⟨p0, p1⟩ p2).len).y, .int .i64 (pMake ⟨p0, p1⟩ p2).len, .int .i64 action])) :=
  Good.vals (args := [.agg #[.int .u64 p0, .int .u64 p1, .int .i64 p2], .int .i64 action]) rfl fun w => c_eOf p0 p1 p2 action w
end Go.Proofs.Ytmmibfjhjbjgeaa
