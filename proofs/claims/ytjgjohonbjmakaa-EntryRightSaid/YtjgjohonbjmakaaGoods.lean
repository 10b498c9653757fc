/- Abstract contracts of the calls that are known. -/
import Derived.Test.YtjgjohonbjmakaaAbs3
import Derived.Test.YtjgjohonbjmakaaWalkB
import Derived.Test.YtjgjohonbjmakaaWalkE
import Derived.Test.YtjgjohonbjmakaaWalkF
import Derived.Test.YtjgjohonbjmakaaWalkG
import Derived.Test.YtjgjohonbjmakaaWalkR3
import Derived.Test.YtjgjohonbjmakaaWalkT
import Derived.Test.YtjgjohonbjmakaaWalkY
namespace Go.Proofs.Ytjgjohonbjmakaa
set_option linter.unusedSimpArgs false
set_option linter.unusedVariables false
open Go Go.RowKit Go.Shelf
theorem lenE (x : Ent) : (encE x).length = 6 := rfl
theorem posE (x : Ent) : encE x ≠ [] := by simp [encE]
theorem oneE (x : Ent) : ∀ u ∈ encE x, u.oneCell' = true := by
  intro u hu
  simp only [encE, List.mem_cons, List.not_mem_nil, or_false] at hu
  rcases hu with rfl | rfl | rfl | rfl | rfl | rfl <;> rfl
set_option maxRecDepth 100000 in
theorem lit_36_1 {N : Nat} {K0 : Know} {w0 : World} {S : St} {d : Option Nat} {ty : TypeId} {pos : String} {aft : Array Edge} {g : Option (Nat × Bool)} {x0 : Operand} {a0_0 : Int} {a0_1 : Int} {a0_2 : Int} {a0_3 : Int} {a0_4 : Int} {a0_5 : Int} (h0 : S.opv x0 = .val (Value.agg #[.int .u64 a0_0, .int .u64 a0_1, .int .u64 a0_2, .int .u64 a0_3, .int .i64 a0_4, .int .i64 a0_5])) :
    OpH Try.prog N K0 w0 ⟨d, .buildSlice 36 1 #[(0, x0)], ty, pos, aft, g⟩ S (.full 6 (([(⟨⟨⟨a0_0, a0_1⟩, ⟨a0_2, a0_3⟩⟩, a0_4, a0_5⟩ : Ent)] : List Ent).map encE)) := by
  have he0 : S.ev x0 = Value.agg #[.int .u64 a0_0, .int .u64 a0_1, .int .u64 a0_2, .int .u64 a0_3, .int .i64 a0_4, .int .i64 a0_5] := by unfold St.ev; rw [h0]
  exact OpH.lit (t := 36) (e := 34) (k := 6) (xs := [[.int .u64 a0_0, .int .u64 a0_1, .int .u64 a0_2, .int .u64 a0_3, .int .i64 a0_4, .int .i64 a0_5]]) (by kernel_rfl) (by simp [h0, AV.isVal]) (by simp [he0, Value.cells]) (by simp only [List.map_toArray, List.map_cons, List.map_nil, he0]; kernel_rfl) rfl rfl rfl
set_option maxRecDepth 100000 in
theorem lit_22_1 {N : Nat} {K0 : Know} {w0 : World} {S : St} {d : Option Nat} {ty : TypeId} {pos : String} {aft : Array Edge} {g : Option (Nat × Bool)} {x0 : Operand} {a0_0 : Int} {a0_1 : Int} {a0_2 : Int} {a0_3 : Int} {a0_4 : Int} {a0_5 : Int} (h0 : S.opv x0 = .val (Value.agg #[.int .u64 a0_0, .int .u64 a0_1, .int .u64 a0_2, .int .u64 a0_3, .int .i64 a0_4, .int .i64 a0_5])) :
    OpH Try.prog N K0 w0 ⟨d, .buildSlice 22 1 #[(0, x0)], ty, pos, aft, g⟩ S (.full 6 (([(⟨⟨⟨a0_0, a0_1⟩, ⟨a0_2, a0_3⟩⟩, a0_4, a0_5⟩ : Ent)] : List Ent).map encE)) := by
  have he0 : S.ev x0 = Value.agg #[.int .u64 a0_0, .int .u64 a0_1, .int .u64 a0_2, .int .u64 a0_3, .int .i64 a0_4, .int .i64 a0_5] := by unfold St.ev; rw [h0]
  exact OpH.lit (t := 22) (e := 29) (k := 6) (xs := [[.int .u64 a0_0, .int .u64 a0_1, .int .u64 a0_2, .int .u64 a0_3, .int .i64 a0_4, .int .i64 a0_5]]) (by kernel_rfl) (by simp [h0, AV.isVal]) (by simp [he0, Value.cells]) (by simp only [List.map_toArray, List.map_cons, List.map_nil, he0]; kernel_rfl) rfl rfl rfl
set_option maxRecDepth 100000 in
theorem lit_22_2 {N : Nat} {K0 : Know} {w0 : World} {S : St} {d : Option Nat} {ty : TypeId} {pos : String} {aft : Array Edge} {g : Option (Nat × Bool)} {x0 x1 : Operand} {a0_0 : Int} {a0_1 : Int} {a0_2 : Int} {a0_3 : Int} {a0_4 : Int} {a0_5 : Int} {a1_0 : Int} {a1_1 : Int} {a1_2 : Int} {a1_3 : Int} {a1_4 : Int} {a1_5 : Int} (h0 : S.opv x0 = .val (Value.agg #[.int .u64 a0_0, .int .u64 a0_1, .int .u64 a0_2, .int .u64 a0_3, .int .i64 a0_4, .int .i64 a0_5])) (h1 : S.opv x1 = .val (Value.agg #[.int .u64 a1_0, .int .u64 a1_1, .int .u64 a1_2, .int .u64 a1_3, .int .i64 a1_4, .int .i64 a1_5])) :
    OpH Try.prog N K0 w0 ⟨d, .buildSlice 22 2 #[(0, x0), (1, x1)], ty, pos, aft, g⟩ S (.full 6 (([(⟨⟨⟨a0_0, a0_1⟩, ⟨a0_2, a0_3⟩⟩, a0_4, a0_5⟩ : Ent), (⟨⟨⟨a1_0, a1_1⟩, ⟨a1_2, a1_3⟩⟩, a1_4, a1_5⟩ : Ent)] : List Ent).map encE)) := by
  have he0 : S.ev x0 = Value.agg #[.int .u64 a0_0, .int .u64 a0_1, .int .u64 a0_2, .int .u64 a0_3, .int .i64 a0_4, .int .i64 a0_5] := by unfold St.ev; rw [h0]
  have he1 : S.ev x1 = Value.agg #[.int .u64 a1_0, .int .u64 a1_1, .int .u64 a1_2, .int .u64 a1_3, .int .i64 a1_4, .int .i64 a1_5] := by unfold St.ev; rw [h1]
  exact OpH.lit (t := 22) (e := 29) (k := 6) (xs := [[.int .u64 a0_0, .int .u64 a0_1, .int .u64 a0_2, .int .u64 a0_3, .int .i64 a0_4, .int .i64 a0_5], [.int .u64 a1_0, .int .u64 a1_1, .int .u64 a1_2, .int .u64 a1_3, .int .i64 a1_4, .int .i64 a1_5]]) (by kernel_rfl) (by simp [h0, h1, AV.isVal]) (by simp [he0, he1, Value.cells]) (by simp only [List.map_toArray, List.map_cons, List.map_nil, he0, he1]; kernel_rfl) rfl rfl rfl
set_option maxRecDepth 100000 in
theorem lit_67_1 {N : Nat} {K0 : Know} {w0 : World} {S : St} {d : Option Nat} {ty : TypeId} {pos : String} {aft : Array Edge} {g : Option (Nat × Bool)} {x0 : Operand} {a0 : Bool} (h0 : S.opv x0 = .val (.bool a0)) :
    OpH Try.prog N K0 w0 ⟨d, .buildSlice 67 1 #[(0, x0)], ty, pos, aft, g⟩ S (.full 1 (([a0] : List Bool).map encB)) := by
  have he0 : S.ev x0 = .bool a0 := by unfold St.ev; rw [h0]
  exact OpH.lit (t := 67) (e := 4) (k := 1) (xs := [[.bool a0]]) (by kernel_rfl) (by simp [h0, AV.isVal]) (by simp [he0, Value.cells]) (by simp only [List.map_toArray, List.map_cons, List.map_nil, he0]; kernel_rfl) rfl rfl rfl
set_option maxRecDepth 100000 in
theorem lit_88_4 {N : Nat} {K0 : Know} {w0 : World} {S : St} {d : Option Nat} {ty : TypeId} {pos : String} {aft : Array Edge} {g : Option (Nat × Bool)} {x0 x1 x2 x3 : Operand} {a0 : Int} {a1 : Int} {a2 : Int} {a3 : Int} (h0 : S.opv x0 = .val (.int .i64 a0)) (h1 : S.opv x1 = .val (.int .i64 a1)) (h2 : S.opv x2 = .val (.int .i64 a2)) (h3 : S.opv x3 = .val (.int .i64 a3)) :
    OpH Try.prog N K0 w0 ⟨d, .buildSlice 88 4 #[(0, x0), (1, x1), (2, x2), (3, x3)], ty, pos, aft, g⟩ S (.full 1 (([a0, a1, a2, a3] : List Int).map encI)) := by
  have he0 : S.ev x0 = .int .i64 a0 := by unfold St.ev; rw [h0]
  have he1 : S.ev x1 = .int .i64 a1 := by unfold St.ev; rw [h1]
  have he2 : S.ev x2 = .int .i64 a2 := by unfold St.ev; rw [h2]
  have he3 : S.ev x3 = .int .i64 a3 := by unfold St.ev; rw [h3]
  exact OpH.lit (t := 88) (e := 3) (k := 1) (xs := [[.int .i64 a0], [.int .i64 a1], [.int .i64 a2], [.int .i64 a3]]) (by kernel_rfl) (by simp [h0, h1, h2, h3, AV.isVal]) (by simp [he0, he1, he2, he3, Value.cells]) (by simp only [List.map_toArray, List.map_cons, List.map_nil, he0, he1, he2, he3]; kernel_rfl) rfl rfl rfl
theorem g_And (a0 a1 : Int) (b0 b1 : Int) : Good Try.prog 59 [.val (.agg #[.int .u64 a0, .int .u64 a1]), .val (.agg #[.int .u64 b0, .int .u64 b1])] (.val (.agg #[.int .u64 (aAnd (⟨a0, a1⟩ : A2) (⟨b0, b1⟩ : A2)).x, .int .u64 (aAnd (⟨a0, a1⟩ : A2) (⟨b0, b1⟩ : A2)).y])) := Good.vals (args := [.agg #[.int .u64 a0, .int .u64 a1], .agg #[.int .u64 b0, .int .u64 b1]]) rfl fun w => c_And a0 a1 b0 b1 w
theorem g_Xor (a0 a1 : Int) (b0 b1 : Int) : Good Try.prog 64 [.val (.agg #[.int .u64 a0, .int .u64 a1]), .val (.agg #[.int .u64 b0, .int .u64 b1])] (.val (.agg #[.int .u64 (aXor (⟨a0, a1⟩ : A2) (⟨b0, b1⟩ : A2)).x, .int .u64 (aXor (⟨a0, a1⟩ : A2) (⟨b0, b1⟩ : A2)).y])) := Good.vals (args := [.agg #[.int .u64 a0, .int .u64 a1], .agg #[.int .u64 b0, .int .u64 b1]]) rfl fun w => c_Xor a0 a1 b0 b1 w
theorem g_differ (a0 a1 : Int) (b0 b1 : Int) (m0 m1 : Int) : Good Try.prog 58 [.val (.agg #[.int .u64 a0, .int .u64 a1]), .val (.agg #[.int .u64 b0, .int .u64 b1]), .val (.agg #[.int .u64 m0, .int .u64 m1])] (.val (.agg #[.int .u64 (aDiffer (⟨a0, a1⟩ : A2) (⟨b0, b1⟩ : A2) (⟨m0, m1⟩ : A2)).x, .int .u64 (aDiffer (⟨a0, a1⟩ : A2) (⟨b0, b1⟩ : A2) (⟨m0, m1⟩ : A2)).y])) := Good.vals (args := [.agg #[.int .u64 a0, .int .u64 a1], .agg #[.int .u64 b0, .int .u64 b1], .agg #[.int .u64 m0, .int .u64 m1]]) rfl fun w => c_differ a0 a1 b0 b1 m0 m1 w
theorem g_clean (x0 x1 x2 x3 : Int) : Good Try.prog 57 [.val (.agg #[.int .u64 x0, .int .u64 x1, .int .u64 x2, .int .u64 x3])] (.val (.agg #[.int .u64 (wClean (⟨⟨x0, x1⟩, ⟨x2, x3⟩⟩ : W2)).v.x, .int .u64 (wClean (⟨⟨x0, x1⟩, ⟨x2, x3⟩⟩ : W2)).v.y, .int .u64 (wClean (⟨⟨x0, x1⟩, ⟨x2, x3⟩⟩ : W2)).m.x, .int .u64 (wClean (⟨⟨x0, x1⟩, ⟨x2, x3⟩⟩ : W2)).m.y])) := Good.vals (args := [.agg #[.int .u64 x0, .int .u64 x1, .int .u64 x2, .int .u64 x3]]) rfl fun w => c_clean x0 x1 x2 x3 w
theorem g_wRight (x0 x1 x2 x3 : Int) : Good Try.prog 41 [.val (.agg #[.int .u64 x0, .int .u64 x1, .int .u64 x2, .int .u64 x3])] (.val (.bool (wRight (⟨⟨x0, x1⟩, ⟨x2, x3⟩⟩ : W2)))) := Good.vals (args := [.agg #[.int .u64 x0, .int .u64 x1, .int .u64 x2, .int .u64 x3]]) rfl fun w => c_wRight x0 x1 x2 x3 w
theorem g_wMatch (x0 x1 x2 x3 : Int) (a0 a1 : Int) : Good Try.prog 46 [.val (.agg #[.int .u64 x0, .int .u64 x1, .int .u64 x2, .int .u64 x3]), .val (.agg #[.int .u64 a0, .int .u64 a1])] (.val (.bool (wMatch (⟨⟨x0, x1⟩, ⟨x2, x3⟩⟩ : W2) (⟨a0, a1⟩ : A2)))) := Good.vals (args := [.agg #[.int .u64 x0, .int .u64 x1, .int .u64 x2, .int .u64 x3], .agg #[.int .u64 a0, .int .u64 a1]]) rfl fun w => c_wMatch x0 x1 x2 x3 a0 a1 w
theorem g_wMeet (x0 x1 x2 x3 : Int) (y0 y1 y2 y3 : Int) : Good Try.prog 42 [.val (.agg #[.int .u64 x0, .int .u64 x1, .int .u64 x2, .int .u64 x3]), .val (.agg #[.int .u64 y0, .int .u64 y1, .int .u64 y2, .int .u64 y3])] (.val (.bool (wMeet (⟨⟨x0, x1⟩, ⟨x2, x3⟩⟩ : W2) (⟨⟨y0, y1⟩, ⟨y2, y3⟩⟩ : W2)))) := Good.vals (args := [.agg #[.int .u64 x0, .int .u64 x1, .int .u64 x2, .int .u64 x3], .agg #[.int .u64 y0, .int .u64 y1, .int .u64 y2, .int .u64 y3]]) rfl fun w => c_wMeet x0 x1 x2 x3 y0 y1 y2 y3 w
theorem g_Above (x0 x1 x2 x3 x4 x5 : Int) (y0 y1 y2 y3 y4 y5 : Int) : Good Try.prog 20 [.val (.agg #[.int .u64 x0, .int .u64 x1, .int .u64 x2, .int .u64 x3, .int .i64 x4, .int .i64 x5]), .val (.agg #[.int .u64 y0, .int .u64 y1, .int .u64 y2, .int .u64 y3, .int .i64 y4, .int .i64 y5])] (.val (.bool (eAbove (⟨⟨⟨x0, x1⟩, ⟨x2, x3⟩⟩, x4, x5⟩ : Ent) (⟨⟨⟨y0, y1⟩, ⟨y2, y3⟩⟩, y4, y5⟩ : Ent)))) := Good.vals (args := [.agg #[.int .u64 x0, .int .u64 x1, .int .u64 x2, .int .u64 x3, .int .i64 x4, .int .i64 x5], .agg #[.int .u64 y0, .int .u64 y1, .int .u64 y2, .int .u64 y3, .int .i64 y4, .int .i64 y5]]) rfl fun w => c_Above x0 x1 x2 x3 x4 x5 y0 y1 y2 y3 y4 y5 w
theorem g_Alike (x0 x1 x2 x3 x4 x5 : Int) (y0 y1 y2 y3 y4 y5 : Int) : Good Try.prog 22 [.val (.agg #[.int .u64 x0, .int .u64 x1, .int .u64 x2, .int .u64 x3, .int .i64 x4, .int .i64 x5]), .val (.agg #[.int .u64 y0, .int .u64 y1, .int .u64 y2, .int .u64 y3, .int .i64 y4, .int .i64 y5])] (.val (.bool (eAlike (⟨⟨⟨x0, x1⟩, ⟨x2, x3⟩⟩, x4, x5⟩ : Ent) (⟨⟨⟨y0, y1⟩, ⟨y2, y3⟩⟩, y4, y5⟩ : Ent)))) := Good.vals (args := [.agg #[.int .u64 x0, .int .u64 x1, .int .u64 x2, .int .u64 x3, .int .i64 x4, .int .i64 x5], .agg #[.int .u64 y0, .int .u64 y1, .int .u64 y2, .int .u64 y3, .int .i64 y4, .int .i64 y5]]) rfl fun w => c_Alike x0 x1 x2 x3 x4 x5 y0 y1 y2 y3 y4 y5 w
theorem g_isNaN (a : Int) : Good Try.prog 60 [.val (.int .i64 a)] (.val (.bool false)) := Good.vals (args := [.int .i64 a]) rfl fun w => c_isNaN a w
theorem g_cmpInt (a : Int) (b : Int) : Good Try.prog 50 [.val (.int .i64 a), .val (.int .i64 b)] (.val (.int .i64 (cmpInt a b))) := Good.vals (args := [.int .i64 a, .int .i64 b]) rfl fun w => c_cmpInt a b w
theorem g_near (n : Int) : Good Try.prog 39 [.val (.int .i64 n)] (.val (.int .i64 (clamp n))) := Good.vals (args := [.int .i64 n]) rfl fun w => c_near n w
theorem g_addrCompare (a0 a1 : Int) (b0 b1 : Int) : Good Try.prog 51 [.val (.agg #[.int .u64 a0, .int .u64 a1]), .val (.agg #[.int .u64 b0, .int .u64 b1])] (.val (.int .i64 (aCompare (⟨a0, a1⟩ : A2) (⟨b0, b1⟩ : A2)))) := Good.vals (args := [.agg #[.int .u64 a0, .int .u64 a1], .agg #[.int .u64 b0, .int .u64 b1]]) rfl fun w => c_addrCompare a0 a1 b0 b1 w
theorem g_Mask (n : Int) : Good Try.prog 56 [.val (.int .i64 n)] (.val (.agg #[.int .u64 (aMask n).x, .int .u64 (aMask n).y])) := Good.vals (args := [.int .i64 n]) rfl fun w => c_Mask n w
theorem g_Cut (a0 a1 : Int) (n : Int) : Good Try.prog 55 [.val (.agg #[.int .u64 a0, .int .u64 a1]), .val (.int .i64 n)] (.val (.agg #[.int .u64 (aCut (⟨a0, a1⟩ : A2) n).x, .int .u64 (aCut (⟨a0, a1⟩ : A2) n).y])) := Good.vals (args := [.agg #[.int .u64 a0, .int .u64 a1], .int .i64 n]) rfl fun w => c_Cut a0 a1 n w
theorem g_pMake (a0 a1 : Int) (n : Int) : Good Try.prog 36 [.val (.agg #[.int .u64 a0, .int .u64 a1]), .val (.int .i64 n)] (.val (.agg #[.int .u64 (pMake (⟨a0, a1⟩ : A2) n).a.x, .int .u64 (pMake (⟨a0, a1⟩ : A2) n).a.y, .int .i64 (pMake (⟨a0, a1⟩ : A2) n).len])) := Good.vals (args := [.agg #[.int .u64 a0, .int .u64 a1], .int .i64 n]) rfl fun w => c_pMake a0 a1 n w
theorem g_wOf (p0 p1 p2 : Int) : Good Try.prog 40 [.val (.agg #[.int .u64 p0, .int .u64 p1, .int .i64 p2])] (.val (.agg #[.int .u64 (wOf (⟨⟨p0, p1⟩, p2⟩ : Pfx)).v.x, .int .u64 (wOf (⟨⟨p0, p1⟩, p2⟩ : Pfx)).v.y, .int .u64 (wOf (⟨⟨p0, p1⟩, p2⟩ : Pfx)).m.x, .int .u64 (wOf (⟨⟨p0, p1⟩, p2⟩ : Pfx)).m.y])) := Good.vals (args := [.agg #[.int .u64 p0, .int .u64 p1, .int .i64 p2]]) rfl fun w => c_wOf p0 p1 p2 w
theorem g_eOf (p0 p1 p2 : Int) (action : Int) : Good Try.prog 17 [.val (.agg #[.int .u64 p0, .int .u64 p1, .int .i64 p2]), .val (.int .i64 action)] (.val (.agg #[.int .u64 (eOf (⟨⟨p0, p1⟩, p2⟩ : Pfx) action).w.v.x, .int .u64 (eOf (⟨⟨p0, p1⟩, p2⟩ : Pfx) action).w.v.y, .int .u64 (eOf (⟨⟨p0, p1⟩, p2⟩ : Pfx) action).w.m.x, .int .u64 (eOf (⟨⟨p0, p1⟩, p2⟩ : Pfx) action).w.m.y, .int .i64 (eOf (⟨⟨p0, p1⟩, p2⟩ : Pfx) action).len, .int .i64 (eOf (⟨⟨p0, p1⟩, p2⟩ : Pfx) action).act])) := Good.vals (args := [.agg #[.int .u64 p0, .int .u64 p1, .int .i64 p2], .int .i64 action]) rfl fun w => c_eOf p0 p1 p2 action w
theorem g_eRight (x0 x1 x2 x3 x4 x5 : Int) : Good Try.prog 19 [.val (.agg #[.int .u64 x0, .int .u64 x1, .int .u64 x2, .int .u64 x3, .int .i64 x4, .int .i64 x5])] (.val (.bool (eRight (⟨⟨⟨x0, x1⟩, ⟨x2, x3⟩⟩, x4, x5⟩ : Ent)))) := Good.vals (args := [.agg #[.int .u64 x0, .int .u64 x1, .int .u64 x2, .int .u64 x3, .int .i64 x4, .int .i64 x5]]) rfl fun w => c_eRight x0 x1 x2 x3 x4 x5 w
theorem g_law4Of (x0 x1 x2 x3 : Int) : Good Try.prog 35 [.val (.agg #[.int .u64 x0, .int .u64 x1, .int .u64 x2, .int .u64 x3])] (.val (.agg #[.int .u64 (⟨⟨x0, x1⟩, ⟨x2, x3⟩⟩ : W2).v.x, .int .u64 (⟨⟨x0, x1⟩, ⟨x2, x3⟩⟩ : W2).v.y, .int .u64 (⟨⟨x0, x1⟩, ⟨x2, x3⟩⟩ : W2).m.x, .int .u64 (⟨⟨x0, x1⟩, ⟨x2, x3⟩⟩ : W2).m.y])) := Good.vals (args := [.agg #[.int .u64 x0, .int .u64 x1, .int .u64 x2, .int .u64 x3]]) rfl fun w => c_law4Of x0 x1 x2 x3 w
theorem g_law5One (x0 x1 x2 x3 x4 x5 : Int) : Good Try.prog 12 [.val (.agg #[.int .u64 x0, .int .u64 x1, .int .u64 x2, .int .u64 x3, .int .i64 x4, .int .i64 x5])] (.val (.agg #[.int .u64 (⟨⟨⟨x0, x1⟩, ⟨x2, x3⟩⟩, x4, x5⟩ : Ent).w.v.x, .int .u64 (⟨⟨⟨x0, x1⟩, ⟨x2, x3⟩⟩, x4, x5⟩ : Ent).w.v.y, .int .u64 (⟨⟨⟨x0, x1⟩, ⟨x2, x3⟩⟩, x4, x5⟩ : Ent).w.m.x, .int .u64 (⟨⟨⟨x0, x1⟩, ⟨x2, x3⟩⟩, x4, x5⟩ : Ent).w.m.y, .int .i64 (⟨⟨⟨x0, x1⟩, ⟨x2, x3⟩⟩, x4, x5⟩ : Ent).len, .int .i64 (⟨⟨⟨x0, x1⟩, ⟨x2, x3⟩⟩, x4, x5⟩ : Ent).act])) := Good.vals (args := [.agg #[.int .u64 x0, .int .u64 x1, .int .u64 x2, .int .u64 x3, .int .i64 x4, .int .i64 x5]]) rfl fun w => c_law5One x0 x1 x2 x3 x4 x5 w
end Go.Proofs.Ytjgjohonbjmakaa
namespace Go.Proofs.Ytjgjohonbjmakaa
set_option linter.unusedSimpArgs false
set_option linter.unusedVariables false
open Go Go.RowKit Go.Shelf
theorem g_awake5 : Good Try.prog 13 [] (.val (.bool true)) := Good.vals (args := []) rfl c_awake5
theorem g_Tell (xs : List Ent) (a0 a1 : Int) : Good Try.prog 14 [.sl 6 (xs.map encE), .val (.agg #[.int .u64 a0, .int .u64 a1])] (.val (.int .i64 (tell xs ⟨a0, a1⟩))) :=
  Good.sl1 (args := [.agg #[.int .u64 a0, .int .u64 a1]]) posE rfl fun A c w _ _ h => c_Tell A c xs a0 a1 w h
theorem g_rFirst (xs : List Ent) (a0 a1 : Int) (ha : A2.ok ⟨a0, a1⟩) (hok : ∀ x ∈ xs, x.w.ok) : Good Try.prog 11 [.sl 6 (xs.map encE), .val (.agg #[.int .u64 a0, .int .u64 a1])] (.val (.int .i64 (firstAt (fun x => rMatch x.w ⟨a0, a1⟩) xs))) :=
  Good.sl1 (args := [.agg #[.int .u64 a0, .int .u64 a1]]) posE rfl fun A c w _ _ h => c_rFirst A c xs a0 a1 ha hok w h
theorem g_law5Of (xs : List Ent) (hm : xs.length ≤ 65536) : Good Try.prog 23 [.sl 6 (xs.map encE)] (.row 0 34 6 (xs.map encE)) :=
  Good.slRow (args := []) posE lenE oneE rfl fun A c w _ _ h => c_law5Of A c xs w h hm
theorem g_eSort (xs : List Ent) (hm : xs.length ≤ 65536) : Good Try.prog 32 [.sl 6 (xs.map encE)] (.row 0 29 6 ((sortE xs).map encE)) :=
  Good.slRow (args := []) posE lenE oneE rfl fun A c w _ hn h => (c_eSort A c xs w hn h hm).mono fun _ _ ⟨v, h1, h2, h3⟩ => ⟨v, h1, by rw [sortE_length]; exact h2, h3⟩
end Go.Proofs.Ytjgjohonbjmakaa
namespace Go.Proofs.Ytjgjohonbjmakaa
set_option linter.unusedSimpArgs false
set_option linter.unusedVariables false
open Go Go.RowKit Go.Shelf
theorem g_rOp0 (a0 a1 b0 b1 : Int) (h1 : A2.ok ⟨a0, a1⟩) (h2 : A2.ok ⟨b0, b1⟩) : Good Try.prog 15 [.val (.int .i64 0), .val (.agg #[.int .u64 a0, .int .u64 a1]), .val (.agg #[.int .u64 b0, .int .u64 b1])] (.val (.agg #[.int .u64 (aAnd ⟨a0, a1⟩ ⟨b0, b1⟩).x, .int .u64 (aAnd ⟨a0, a1⟩ ⟨b0, b1⟩).y])) :=
  Good.vals (args := [.int .i64 0, .agg #[.int .u64 a0, .int .u64 a1], .agg #[.int .u64 b0, .int .u64 b1]]) rfl fun w => c_rOp0 a0 a1 b0 b1 h1 h2 w
theorem g_rMask (n : Int) : Good Try.prog 18 [.val (.int .i64 n)] (.val (.agg #[.int .u64 (aMask n).x, .int .u64 (aMask n).y])) := Good.vals (args := [.int .i64 n]) rfl fun w => c_rMaskA n w
theorem g_rMake (a0 a1 n : Int) (h : A2.ok ⟨a0, a1⟩) : Good Try.prog 16 [.val (.agg #[.int .u64 a0, .int .u64 a1]), .val (.int .i64 n)] (.val (.agg #[.int .u64 (pMake ⟨a0, a1⟩ n).a.x, .int .u64 (pMake ⟨a0, a1⟩ n).a.y, .int .i64 (pMake ⟨a0, a1⟩ n).len])) :=
  Good.vals (args := [.agg #[.int .u64 a0, .int .u64 a1], .int .i64 n]) rfl fun w => c_rMake a0 a1 n h w
theorem g_rAbove (x0 x1 x2 x3 x4 x5 y0 y1 y2 y3 y4 y5 : Int) (o1 : A2.ok ⟨x0, x1⟩) (o2 : A2.ok ⟨x2, x3⟩) (o3 : A2.ok ⟨y0, y1⟩) (o4 : A2.ok ⟨y2, y3⟩) :
    Good Try.prog 21 [.val (.agg #[.int .u64 x0, .int .u64 x1, .int .u64 x2, .int .u64 x3, .int .i64 x4, .int .i64 x5]), .val (.agg #[.int .u64 y0, .int .u64 y1, .int .u64 y2, .int .u64 y3, .int .i64 y4, .int .i64 y5])] (.val (.bool (decide (y4 < x4) && rMeet ⟨⟨x0, x1⟩, x2, x3⟩ ⟨⟨y0, y1⟩, y2, y3⟩))) :=
  Good.vals (args := [.agg #[.int .u64 x0, .int .u64 x1, .int .u64 x2, .int .u64 x3, .int .i64 x4, .int .i64 x5], .agg #[.int .u64 y0, .int .u64 y1, .int .u64 y2, .int .u64 y3, .int .i64 y4, .int .i64 y5]]) rfl fun w => c_rAbove x0 x1 x2 x3 x4 x5 y0 y1 y2 y3 y4 y5 o1 o2 o3 o4 w
theorem above_ref {x y : Ent} (hx : x.w.ok) (hy : y.w.ok) : (decide (y.len < x.len) && rMeet x.w y.w) = eAbove x y := by
  unfold eAbove
  rw [meet_ref hx hy]
theorem g_rAboveE (x0 x1 x2 x3 x4 x5 y0 y1 y2 y3 y4 y5 : Int) (o1 : A2.ok ⟨x0, x1⟩) (o2 : A2.ok ⟨x2, x3⟩) (o3 : A2.ok ⟨y0, y1⟩) (o4 : A2.ok ⟨y2, y3⟩) :
    Good Try.prog 21 [.val (.agg #[.int .u64 x0, .int .u64 x1, .int .u64 x2, .int .u64 x3, .int .i64 x4, .int .i64 x5]), .val (.agg #[.int .u64 y0, .int .u64 y1, .int .u64 y2, .int .u64 y3, .int .i64 y4, .int .i64 y5])] (.val (.bool (eAbove ⟨⟨⟨x0, x1⟩, x2, x3⟩, x4, x5⟩ ⟨⟨⟨y0, y1⟩, y2, y3⟩, y4, y5⟩))) := by
  rw [← above_ref (x := ⟨⟨⟨x0, x1⟩, x2, x3⟩, x4, x5⟩) (y := ⟨⟨⟨y0, y1⟩, y2, y3⟩, y4, y5⟩) ⟨o1, o2⟩ ⟨o3, o4⟩]
  exact g_rAbove _ _ _ _ _ _ _ _ _ _ _ _ o1 o2 o3 o4
theorem g_eOfP (p0 p1 p2 action : Int) : Good Try.prog 17 [.val (.agg #[.int .u64 p0, .int .u64 p1, .int .i64 p2]), .val (.int .i64 action)] (.val (.agg #[.int .u64 (pMake ⟨p0, p1⟩ p2).a.x, .int .u64 (pMake ⟨p0, p1⟩ p2).a.y, .int .u64 (aMask (pMake ⟨p0, p1⟩ p2).len).x, .int .u64 (aMask (pMake ⟨p0, p1⟩ p2).len).y, .int .i64 (pMake ⟨p0, p1⟩ p2).len, .int .i64 action])) :=
  Good.vals (args := [.agg #[.int .u64 p0, .int .u64 p1, .int .i64 p2], .int .i64 action]) rfl fun w => c_eOf p0 p1 p2 action w
end Go.Proofs.Ytjgjohonbjmakaa
