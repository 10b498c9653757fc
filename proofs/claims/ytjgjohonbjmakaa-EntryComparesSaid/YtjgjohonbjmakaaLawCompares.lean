/- EntryCompares: the walk. -/
import Derived.Test.YtjgjohonbjmakaaWalkI
import Derived.Test.YtjgjohonbjmakaaWalkG
import Derived.Test.YtjgjohonbjmakaaWalkF
import Derived.Test.YtjgjohonbjmakaaOpen
namespace Go.Proofs.Ytjgjohonbjmakaa
set_option linter.unusedSimpArgs false
set_option linter.unusedVariables false
open Go.RowKit
theorem wrap_m1 : IntKind.i64.wrap (-1) = -1 := by decide
theorem wrap_1 : IntKind.i64.wrap 1 = 1 := by decide
theorem wrap_0 : IntKind.i64.wrap 0 = 0 := by decide
theorem bne_int (n : Int) : (n != n) = false := by simp
theorem firstNZ_range : ∀ ns : List Int, (∀ n ∈ ns, -1 ≤ n ∧ n ≤ 1) → -1 ≤ firstNZ ns ∧ firstNZ ns ≤ 1
  | [], _ => by simp [firstNZ]
  | n :: ns, h => by
    unfold firstNZ
    split
    · exact firstNZ_range ns fun m hm => h m (List.mem_cons_of_mem _ hm)
    · exact h n (List.mem_cons_self ..)
theorem cmpInt_range (a b : Int) : -1 ≤ cmpInt a b ∧ cmpInt a b ≤ 1 := by
  unfold cmpInt
  (repeat' split) <;> omega
theorem aCompare_range (a b : A2) : -1 ≤ aCompare a b ∧ aCompare a b ≤ 1 := by
  unfold aCompare
  (repeat' split) <;> omega
theorem eCmp_range (x y : Ent) : -1 ≤ eCmp x y ∧ eCmp x y ≤ 1 := by
  unfold eCmp
  refine firstNZ_range _ fun n hn => ?_
  simp only [List.mem_cons, List.not_mem_nil, or_false] at hn
  rcases hn with rfl | rfl | rfl | rfl
  · exact cmpInt_range _ _
  · exact aCompare_range _ _
  · exact aCompare_range _ _
  · exact cmpInt_range _ _
attribute [local irreducible] rMatch rMeet eCmp rCmp
attribute [local go_sem high] eql_25 neq_25 eql_24 neq_24 eql_27 neq_27 eql_32 neq_32 eql_29 neq_29 eql_34 neq_34 eql_41 neq_41 eql_44 neq_44
attribute [local go_sem ↓ high] yielded_undef
attribute [local go_sem] eqg_25 eqg_24 eqg_27 eqg_32 eqg_29 eqg_34 eqg_41 eqg_44 cell_grew frozen_grew size_grew grew_grew drewN_grew lt_addk size_setW Instr.field asAgg lt_gi_k lt_gi_kh lt_gi_k_k lt_gi_k_kh lt_gi_k_k_k lt_gi_k_k_kh lt_gi_i_k lt_gi_i_kh lt_gi_i_k_k lt_gi_i_k_kh lt_gi_i_k_k_k lt_gi_i_k_k_kh lt_gi_i_i_k lt_gi_i_i_kh lt_gi_i_i_k_k lt_gi_i_i_k_kh lt_gi_i_i_k_k_k lt_gi_i_i_k_k_kh lt_gi_i_i_i_k lt_gi_i_i_i_kh lt_gi_i_i_i_k_k lt_gi_i_i_i_k_kh lt_gi_i_i_i_k_k_k lt_gi_i_i_i_k_k_kh lt_gi_i_i_i_i_k lt_gi_i_i_i_i_kh lt_gi_i_i_i_i_k_k lt_gi_i_i_i_i_k_kh lt_gi_i_i_i_i_k_k_k lt_gi_i_i_i_i_k_k_kh lt_gi_i_i_i_i_i_k lt_gi_i_i_i_i_i_kh lt_gi_i_i_i_i_i_k_k lt_gi_i_i_i_i_i_k_kh lt_gi_i_i_i_i_i_k_k_k lt_gi_i_i_i_i_i_k_k_kh lt_gi_i_i_i_i_i_i_k lt_gi_i_i_i_i_i_i_kh lt_gi_i_i_i_i_i_i_k_k lt_gi_i_i_i_i_i_i_k_kh lt_gi_i_i_i_i_i_i_k_k_k lt_gi_i_i_i_i_i_i_k_k_kh lt_gi_i_i_i_i_i_i_i_k lt_gi_i_i_i_i_i_i_i_kh lt_gi_i_i_i_i_i_i_i_k_k lt_gi_i_i_i_i_i_i_i_k_kh lt_gi_i_i_i_i_i_i_i_k_k_k lt_gi_i_i_i_i_i_i_i_k_k_kh lt_gi_k_i lt_gi_k_ih lt_gi_k_i_k lt_gi_k_i_kh lt_gi_k_k_i lt_gi_k_k_ih lt_gi_k_k_i_k lt_gi_k_k_i_kh lt_gi_k_i_i lt_gi_k_i_ih lt_gi_k_i_i_k lt_gi_k_i_i_kh lt_gi_k_k_i_i lt_gi_k_k_i_ih lt_gi_k_k_i_i_k lt_gi_k_k_i_i_kh lt_gi_k_i_i_i lt_gi_k_i_i_ih lt_gi_k_i_i_i_k lt_gi_k_i_i_i_kh lt_gi_k_k_i_i_i lt_gi_k_k_i_i_ih lt_gi_k_k_i_i_i_k lt_gi_k_k_i_i_i_kh lt_gi_i_k_i lt_gi_i_k_ih lt_gi_i_k_i_k lt_gi_i_k_i_kh lt_gi_i_k_k_i lt_gi_i_k_k_ih lt_gi_i_k_k_i_k lt_gi_i_k_k_i_kh lt_gi_i_k_i_i lt_gi_i_k_i_ih lt_gi_i_k_i_i_k lt_gi_i_k_i_i_kh lt_gi_i_k_k_i_i lt_gi_i_k_k_i_ih lt_gi_i_k_k_i_i_k lt_gi_i_k_k_i_i_kh lt_gi_i_k_i_i_i lt_gi_i_k_i_i_ih lt_gi_i_k_i_i_i_k lt_gi_i_k_i_i_i_kh lt_gi_i_k_k_i_i_i lt_gi_i_k_k_i_i_ih lt_gi_i_k_k_i_i_i_k lt_gi_i_k_k_i_i_i_kh lt_gi_i_i_k_i lt_gi_i_i_k_ih lt_gi_i_i_k_i_k lt_gi_i_i_k_i_kh lt_gi_i_i_k_k_i lt_gi_i_i_k_k_ih lt_gi_i_i_k_k_i_k lt_gi_i_i_k_k_i_kh lt_gi_i_i_k_i_i lt_gi_i_i_k_i_ih lt_gi_i_i_k_i_i_k lt_gi_i_i_k_i_i_kh lt_gi_i_i_k_k_i_i lt_gi_i_i_k_k_i_ih lt_gi_i_i_k_k_i_i_k lt_gi_i_i_k_k_i_i_kh lt_gi_i_i_k_i_i_i lt_gi_i_i_k_i_i_ih lt_gi_i_i_k_i_i_i_k lt_gi_i_i_k_i_i_i_kh lt_gi_i_i_k_k_i_i_i lt_gi_i_i_k_k_i_i_ih lt_gi_i_i_k_k_i_i_i_k lt_gi_i_i_k_k_i_i_i_kh lt_gi_i_i_i_k_i lt_gi_i_i_i_k_ih lt_gi_i_i_i_k_i_k lt_gi_i_i_i_k_i_kh lt_gi_i_i_i_k_k_i lt_gi_i_i_i_k_k_ih lt_gi_i_i_i_k_k_i_k lt_gi_i_i_i_k_k_i_kh lt_gi_i_i_i_k_i_i lt_gi_i_i_i_k_i_ih lt_gi_i_i_i_k_i_i_k lt_gi_i_i_i_k_i_i_kh lt_gi_i_i_i_k_k_i_i lt_gi_i_i_i_k_k_i_ih lt_gi_i_i_i_k_k_i_i_k lt_gi_i_i_i_k_k_i_i_kh lt_gi_i_i_i_k_i_i_i lt_gi_i_i_i_k_i_i_ih lt_gi_i_i_i_k_i_i_i_k lt_gi_i_i_i_k_i_i_i_kh lt_gi_i_i_i_k_k_i_i_i lt_gi_i_i_i_k_k_i_i_ih lt_gi_i_i_i_k_k_i_i_i_k lt_gi_i_i_i_k_k_i_i_i_kh lt_gi_i_i_i_i_k_i lt_gi_i_i_i_i_k_ih lt_gi_i_i_i_i_k_i_k lt_gi_i_i_i_i_k_i_kh lt_gi_i_i_i_i_k_k_i lt_gi_i_i_i_i_k_k_ih lt_gi_i_i_i_i_k_k_i_k lt_gi_i_i_i_i_k_k_i_kh lt_gi_i_i_i_i_k_i_i lt_gi_i_i_i_i_k_i_ih lt_gi_i_i_i_i_k_i_i_k lt_gi_i_i_i_i_k_i_i_kh lt_gi_i_i_i_i_k_k_i_i lt_gi_i_i_i_i_k_k_i_ih lt_gi_i_i_i_i_k_k_i_i_k lt_gi_i_i_i_i_k_k_i_i_kh lt_gi_i_i_i_i_k_i_i_i lt_gi_i_i_i_i_k_i_i_ih lt_gi_i_i_i_i_k_i_i_i_k lt_gi_i_i_i_i_k_i_i_i_kh lt_gi_i_i_i_i_k_k_i_i_i lt_gi_i_i_i_i_k_k_i_i_ih lt_gi_i_i_i_i_k_k_i_i_i_k lt_gi_i_i_i_i_k_k_i_i_i_kh
attribute [local go_sem] wrap_m1 wrap_1 wrap_0 bne_int Int.neg_neg Int.neg_zero
theorem same_eCmp (x y : Ent) : same x y = decide (eCmp x y = 0) := by
  rw [Bool.eq_iff_iff, decide_eq_true_iff, eCmp_zero]
  simp [same]
set_option maxRecDepth 100000 in
set_option maxHeartbeats 8000000 in
theorem w_EntryCompares (x y z : Ent) (w : World) (hox : OkE x) (hoy : OkE y) (hoz : OkE z) :
    Calls Try.prog 7 #[.agg #[.int .u64 x.w.v.x, .int .u64 x.w.v.y, .int .u64 x.w.m.x, .int .u64 x.w.m.y, .int .i64 x.len, .int .i64 x.act], .agg #[.int .u64 y.w.v.x, .int .u64 y.w.v.y, .int .u64 y.w.m.x, .int .u64 y.w.m.y, .int .i64 y.len, .int .i64 y.act], .agg #[.int .u64 z.w.v.x, .int .u64 z.w.v.y, .int .u64 z.w.m.x, .int .u64 z.w.m.y, .int .i64 z.len, .int .i64 z.act]] w fun e w' => e = .returned (.bool true) ∧ Below w.heap.size w w' := by
  obtain ⟨⟨⟨xa, xb⟩, xc, xd⟩, xl, xk⟩ := x
  obtain ⟨⟨⟨ya, yb⟩, yc, yd⟩, yl, yk⟩ := y
  obtain ⟨⟨⟨za, zb⟩, zc, zd⟩, zl, zk⟩ := z
  have ht := fun h1 h2 => eCmp_trans (x := ⟨⟨⟨xa, xb⟩, xc, xd⟩, xl, xk⟩) (y := ⟨⟨⟨ya, yb⟩, yc, yd⟩, yl, yk⟩) (z := ⟨⟨⟨za, zb⟩, zc, zd⟩, zl, zk⟩) h1 h2
  have e1 := (eCmp_rCmp ⟨⟨⟨xa, xb⟩, xc, xd⟩, xl, xk⟩ ⟨⟨⟨ya, yb⟩, yc, yd⟩, yl, yk⟩).symm
  have e2 := eCmp_neg ⟨⟨⟨ya, yb⟩, yc, yd⟩, yl, yk⟩ ⟨⟨⟨xa, xb⟩, xc, xd⟩, xl, xk⟩
  have hs := same_eCmp ⟨⟨⟨xa, xb⟩, xc, xd⟩, xl, xk⟩ ⟨⟨⟨ya, yb⟩, yc, yd⟩, yl, yk⟩
  obtain ⟨n, hn⟩ : ∃ n, eCmp ⟨⟨⟨xa, xb⟩, xc, xd⟩, xl, xk⟩ ⟨⟨⟨ya, yb⟩, yc, yd⟩, yl, yk⟩ = n := ⟨_, rfl⟩
  obtain ⟨m, hm⟩ : ∃ n, eCmp ⟨⟨⟨ya, yb⟩, yc, yd⟩, yl, yk⟩ ⟨⟨⟨za, zb⟩, zc, zd⟩, zl, zk⟩ = n := ⟨_, rfl⟩
  obtain ⟨k, hk⟩ : ∃ n, eCmp ⟨⟨⟨xa, xb⟩, xc, xd⟩, xl, xk⟩ ⟨⟨⟨za, zb⟩, zc, zd⟩, zl, zk⟩ = n := ⟨_, rfl⟩
  rw [hn] at e1 e2 hs ht
  rw [hm, hk] at ht
  have ox1 := hox.1
  have oy1 := hoy.1
  obtain ⟨ox1, ox2⟩ := ox1
  obtain ⟨oy1, oy2⟩ := oy1
  dsimp only at ox1 ox2 oy1 oy2
  have hn3 := eCmp_range ⟨⟨⟨xa, xb⟩, xc, xd⟩, xl, xk⟩ ⟨⟨⟨ya, yb⟩, yc, yd⟩, yl, yk⟩
  rw [hn] at hn3
  have hc : n = 1 ∨ n = 0 ∧ m > 0 ∨ n = 0 ∧ ¬ m > 0 ∧ k ≤ 0 ∨ n = -1 ∧ m > 0 ∨ n = -1 ∧ ¬ m > 0 ∧ k ≤ 0 := by omega
  clear ht hox hoy hoz hn3
  dsimp only
  go_enter Try.func7, Try.ntmps7
  rcases hc with rfl | ⟨rfl, hc2⟩ | ⟨rfl, hc2, hc3⟩ | ⟨rfl, hc2⟩ | ⟨rfl, hc2, hc3⟩
  all_goals
    simp at hs e2
  all_goals
    go_wp2_with (first | (go_at_call 12; refine (c_law5One _ _ _ _ _ _ _).mono ?_; rintro e w' ⟨rfl, hb⟩; obtain ⟨p, rfl⟩ := below_grew hb; clear hb) | (go_at_call 13; refine (c_awake5 _).mono ?_; rintro e w' ⟨rfl, hb⟩; obtain ⟨p, rfl⟩ := below_grew hb; clear hb) | (go_at_call 30; refine (c_eCompareF _ _ _ _ _ _ _ _ _ _ _ _ _).mono ?_; rintro e w' ⟨rfl, hb⟩; obtain ⟨p, rfl⟩ := below_grew hb; clear hb) | (go_at_call 31; refine (c_r5Compare _ _ _ _ _ _ _ _ _ _ _ _ (by assumption) (by assumption) (by assumption) (by assumption) _).mono ?_; rintro e w' ⟨rfl, hb⟩; obtain ⟨p, rfl⟩ := below_grew hb; clear hb) | (refine wp_region_mix (id := 2) 22 [(0, true), (1, true), (2, true), (3, true), (4, true), (5, true), (6, true), (7, true), (8, true), (9, true), (10, true), (11, true), (12, true), (13, true), (14, true), (15, true), (16, true), (17, true), (18, true), (19, true), (20, true), (21, true)] (by kernel_rfl) (by kernel_rfl) ?_) | (refine mix_quiet rfl (fun K hK => ?_); go_simp) | (apply Exists.intro; refine ⟨fun (_ : Ext) => ?_, ?_⟩; · (first | (go_at_call 12; exact calls_later (c_law5One _ _ _ _ _ _ _)) | (go_at_call 13; exact calls_later (c_awake5 _)) | (go_at_call 30; exact calls_later (c_eCompareF _ _ _ _ _ _ _ _ _ _ _ _ _)) | (go_at_call 31; exact calls_later (c_r5Compare _ _ _ _ _ _ _ _ _ _ _ _ (by assumption) (by assumption) (by assumption) (by assumption) _)))) | (refine mix_end (fun p => ?_); simp only [List.drop_succ_cons, List.drop_zero]))
    refine bodyPost_ret (v := .bool true) ?_ rfl ⟨rfl, ?_⟩
    · simp [results, Try.f7, go_sem]
    · repeat' (first | with_reducible exact Below.refl _ _ | with_reducible assumption | with_reducible apply below_grews | with_reducible apply Below.drew | with_reducible apply Below.alloc | with_reducible apply Below.setCell | (simp [size_grew, -Nat.not_le, -Nat.not_lt] <;> omega))
end Go.Proofs.Ytjgjohonbjmakaa
