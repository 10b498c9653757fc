/- What single calls do: words. -/
import Derived.Test.YtjgjohonbjmakaaProg
import Derived.Test.YtjgjohonbjmakaaMix
import Derived.Test.YtjgjohonbjmakaaSpec
import Derived.Test.YtjgjohonbjmakaaEq
import Derived.WalkKit
import Derived.WalkSpells
import Derived.WalkLawsBesides
import Derived.KernelRfl
namespace Go.Proofs.Ytjgjohonbjmakaa
open Go.RowKit
set_option linter.unusedSimpArgs false
set_option linter.unusedVariables false
attribute [local go_sem high] eql_25 neq_25 eql_24 neq_24 eql_27 neq_27 eql_32 neq_32 eql_29 neq_29 eql_34 neq_34 eql_41 neq_41 eql_44 neq_44
attribute [local go_sem ↓ high] yielded_undef
attribute [local go_sem] eqg_25 eqg_24 eqg_27 eqg_32 eqg_29 eqg_34 eqg_41 eqg_44 cell_grew frozen_grew size_grew grew_grew drewN_grew lt_addk size_setW Instr.field asAgg lt_gi_k lt_gi_kh lt_gi_k_k lt_gi_k_kh lt_gi_k_k_k lt_gi_k_k_kh lt_gi_i_k lt_gi_i_kh lt_gi_i_k_k lt_gi_i_k_kh lt_gi_i_k_k_k lt_gi_i_k_k_kh lt_gi_i_i_k lt_gi_i_i_kh lt_gi_i_i_k_k lt_gi_i_i_k_kh lt_gi_i_i_k_k_k lt_gi_i_i_k_k_kh lt_gi_i_i_i_k lt_gi_i_i_i_kh lt_gi_i_i_i_k_k lt_gi_i_i_i_k_kh lt_gi_i_i_i_k_k_k lt_gi_i_i_i_k_k_kh lt_gi_i_i_i_i_k lt_gi_i_i_i_i_kh lt_gi_i_i_i_i_k_k lt_gi_i_i_i_i_k_kh lt_gi_i_i_i_i_k_k_k lt_gi_i_i_i_i_k_k_kh lt_gi_i_i_i_i_i_k lt_gi_i_i_i_i_i_kh lt_gi_i_i_i_i_i_k_k lt_gi_i_i_i_i_i_k_kh lt_gi_i_i_i_i_i_k_k_k lt_gi_i_i_i_i_i_k_k_kh lt_gi_i_i_i_i_i_i_k lt_gi_i_i_i_i_i_i_kh lt_gi_i_i_i_i_i_i_k_k lt_gi_i_i_i_i_i_i_k_kh lt_gi_i_i_i_i_i_i_k_k_k lt_gi_i_i_i_i_i_i_k_k_kh lt_gi_i_i_i_i_i_i_i_k lt_gi_i_i_i_i_i_i_i_kh lt_gi_i_i_i_i_i_i_i_k_k lt_gi_i_i_i_i_i_i_i_k_kh lt_gi_i_i_i_i_i_i_i_k_k_k lt_gi_i_i_i_i_i_i_i_k_k_kh lt_gi_k_i lt_gi_k_ih lt_gi_k_i_k lt_gi_k_i_kh lt_gi_k_k_i lt_gi_k_k_ih lt_gi_k_k_i_k lt_gi_k_k_i_kh lt_gi_k_i_i lt_gi_k_i_ih lt_gi_k_i_i_k lt_gi_k_i_i_kh lt_gi_k_k_i_i lt_gi_k_k_i_ih lt_gi_k_k_i_i_k lt_gi_k_k_i_i_kh lt_gi_k_i_i_i lt_gi_k_i_i_ih lt_gi_k_i_i_i_k lt_gi_k_i_i_i_kh lt_gi_k_k_i_i_i lt_gi_k_k_i_i_ih lt_gi_k_k_i_i_i_k lt_gi_k_k_i_i_i_kh lt_gi_i_k_i lt_gi_i_k_ih lt_gi_i_k_i_k lt_gi_i_k_i_kh lt_gi_i_k_k_i lt_gi_i_k_k_ih lt_gi_i_k_k_i_k lt_gi_i_k_k_i_kh lt_gi_i_k_i_i lt_gi_i_k_i_ih lt_gi_i_k_i_i_k lt_gi_i_k_i_i_kh lt_gi_i_k_k_i_i lt_gi_i_k_k_i_ih lt_gi_i_k_k_i_i_k lt_gi_i_k_k_i_i_kh lt_gi_i_k_i_i_i lt_gi_i_k_i_i_ih lt_gi_i_k_i_i_i_k lt_gi_i_k_i_i_i_kh lt_gi_i_k_k_i_i_i lt_gi_i_k_k_i_i_ih lt_gi_i_k_k_i_i_i_k lt_gi_i_k_k_i_i_i_kh lt_gi_i_i_k_i lt_gi_i_i_k_ih lt_gi_i_i_k_i_k lt_gi_i_i_k_i_kh lt_gi_i_i_k_k_i lt_gi_i_i_k_k_ih lt_gi_i_i_k_k_i_k lt_gi_i_i_k_k_i_kh lt_gi_i_i_k_i_i lt_gi_i_i_k_i_ih lt_gi_i_i_k_i_i_k lt_gi_i_i_k_i_i_kh lt_gi_i_i_k_k_i_i lt_gi_i_i_k_k_i_ih lt_gi_i_i_k_k_i_i_k lt_gi_i_i_k_k_i_i_kh lt_gi_i_i_k_i_i_i lt_gi_i_i_k_i_i_ih lt_gi_i_i_k_i_i_i_k lt_gi_i_i_k_i_i_i_kh lt_gi_i_i_k_k_i_i_i lt_gi_i_i_k_k_i_i_ih lt_gi_i_i_k_k_i_i_i_k lt_gi_i_i_k_k_i_i_i_kh lt_gi_i_i_i_k_i lt_gi_i_i_i_k_ih lt_gi_i_i_i_k_i_k lt_gi_i_i_i_k_i_kh lt_gi_i_i_i_k_k_i lt_gi_i_i_i_k_k_ih lt_gi_i_i_i_k_k_i_k lt_gi_i_i_i_k_k_i_kh lt_gi_i_i_i_k_i_i lt_gi_i_i_i_k_i_ih lt_gi_i_i_i_k_i_i_k lt_gi_i_i_i_k_i_i_kh lt_gi_i_i_i_k_k_i_i lt_gi_i_i_i_k_k_i_ih lt_gi_i_i_i_k_k_i_i_k lt_gi_i_i_i_k_k_i_i_kh lt_gi_i_i_i_k_i_i_i lt_gi_i_i_i_k_i_i_ih lt_gi_i_i_i_k_i_i_i_k lt_gi_i_i_i_k_i_i_i_kh lt_gi_i_i_i_k_k_i_i_i lt_gi_i_i_i_k_k_i_i_ih lt_gi_i_i_i_k_k_i_i_i_k lt_gi_i_i_i_k_k_i_i_i_kh lt_gi_i_i_i_i_k_i lt_gi_i_i_i_i_k_ih lt_gi_i_i_i_i_k_i_k lt_gi_i_i_i_i_k_i_kh lt_gi_i_i_i_i_k_k_i lt_gi_i_i_i_i_k_k_ih lt_gi_i_i_i_i_k_k_i_k lt_gi_i_i_i_i_k_k_i_kh lt_gi_i_i_i_i_k_i_i lt_gi_i_i_i_i_k_i_ih lt_gi_i_i_i_i_k_i_i_k lt_gi_i_i_i_i_k_i_i_kh lt_gi_i_i_i_i_k_k_i_i lt_gi_i_i_i_i_k_k_i_ih lt_gi_i_i_i_i_k_k_i_i_k lt_gi_i_i_i_i_k_k_i_i_kh lt_gi_i_i_i_i_k_i_i_i lt_gi_i_i_i_i_k_i_i_ih lt_gi_i_i_i_i_k_i_i_i_k lt_gi_i_i_i_i_k_i_i_i_kh lt_gi_i_i_i_i_k_k_i_i_i lt_gi_i_i_i_i_k_k_i_i_ih lt_gi_i_i_i_i_k_k_i_i_i_k lt_gi_i_i_i_i_k_k_i_i_i_kh
set_option maxRecDepth 100000 in
set_option maxHeartbeats 2000000 in
theorem c_And (a0 a1 : Int) (b0 b1 : Int)  (w : World) :
    Calls Try.prog 59 #[.agg #[.int .u64 a0, .int .u64 a1], .agg #[.int .u64 b0, .int .u64 b1]] w fun e w' => e = .returned (.agg #[.int .u64 (aAnd (⟨a0, a1⟩ : A2) (⟨b0, b1⟩ : A2)).x, .int .u64 (aAnd (⟨a0, a1⟩ : A2) (⟨b0, b1⟩ : A2)).y]) ∧ Below w.heap.size w w' := by
  go_enter Try.func59, Try.ntmps59
  go_wp2
  all_goals
    refine bodyPost_ret (v := .agg #[.int .u64 (aAnd (⟨a0, a1⟩ : A2) (⟨b0, b1⟩ : A2)).x, .int .u64 (aAnd (⟨a0, a1⟩ : A2) (⟨b0, b1⟩ : A2)).y]) ?_ rfl ⟨rfl, ?_⟩
    · simp [results, Try.f59, go_sem] <;> (first | rfl | (simp [aAnd]; done) | (simp [aAnd] <;> omega) | (simp_all [aAnd]; done) | (simp only [aAnd]; (repeat' split) <;> first | rfl | (simp; done) | (exfalso; omega) | (simp; omega)) | (simp_all [aAnd] <;> omega) | (intros; omega))
    · repeat' (first | with_reducible exact Below.refl _ _ | with_reducible assumption | with_reducible apply below_grews | with_reducible apply Below.drew | with_reducible apply Below.alloc | with_reducible apply Below.setCell | (simp [size_grew, -Nat.not_le, -Nat.not_lt] <;> omega))
set_option maxRecDepth 100000 in
set_option maxHeartbeats 2000000 in
theorem c_Xor (a0 a1 : Int) (b0 b1 : Int)  (w : World) :
    Calls Try.prog 64 #[.agg #[.int .u64 a0, .int .u64 a1], .agg #[.int .u64 b0, .int .u64 b1]] w fun e w' => e = .returned (.agg #[.int .u64 (aXor (⟨a0, a1⟩ : A2) (⟨b0, b1⟩ : A2)).x, .int .u64 (aXor (⟨a0, a1⟩ : A2) (⟨b0, b1⟩ : A2)).y]) ∧ Below w.heap.size w w' := by
  go_enter Try.func64, Try.ntmps64
  go_wp2
  all_goals
    refine bodyPost_ret (v := .agg #[.int .u64 (aXor (⟨a0, a1⟩ : A2) (⟨b0, b1⟩ : A2)).x, .int .u64 (aXor (⟨a0, a1⟩ : A2) (⟨b0, b1⟩ : A2)).y]) ?_ rfl ⟨rfl, ?_⟩
    · simp [results, Try.f64, go_sem] <;> (first | rfl | (simp [aXor]; done) | (simp [aXor] <;> omega) | (simp_all [aXor]; done) | (simp only [aXor]; (repeat' split) <;> first | rfl | (simp; done) | (exfalso; omega) | (simp; omega)) | (simp_all [aXor] <;> omega) | (intros; omega))
    · repeat' (first | with_reducible exact Below.refl _ _ | with_reducible assumption | with_reducible apply below_grews | with_reducible apply Below.drew | with_reducible apply Below.alloc | with_reducible apply Below.setCell | (simp [size_grew, -Nat.not_le, -Nat.not_lt] <;> omega))
set_option maxRecDepth 100000 in
set_option maxHeartbeats 2000000 in
theorem c_differ (a0 a1 : Int) (b0 b1 : Int) (m0 m1 : Int)  (w : World) :
    Calls Try.prog 58 #[.agg #[.int .u64 a0, .int .u64 a1], .agg #[.int .u64 b0, .int .u64 b1], .agg #[.int .u64 m0, .int .u64 m1]] w fun e w' => e = .returned (.agg #[.int .u64 (aDiffer (⟨a0, a1⟩ : A2) (⟨b0, b1⟩ : A2) (⟨m0, m1⟩ : A2)).x, .int .u64 (aDiffer (⟨a0, a1⟩ : A2) (⟨b0, b1⟩ : A2) (⟨m0, m1⟩ : A2)).y]) ∧ Below w.heap.size w w' := by
  go_enter Try.func58, Try.ntmps58
  go_wp2_with (first | (go_at_call 59; refine (c_And _ _ _ _ _).mono ?_; rintro e w' ⟨rfl, hb⟩; obtain ⟨p, rfl⟩ := below_grew hb; clear hb) | (go_at_call 64; refine (c_Xor _ _ _ _ _).mono ?_; rintro e w' ⟨rfl, hb⟩; obtain ⟨p, rfl⟩ := below_grew hb; clear hb) | (refine wp_region_mix (id := 1) 5 [(0, true), (1, true), (2, true), (3, true), (4, true)] (by kernel_rfl) (by kernel_rfl) ?_) | (refine mix_quiet rfl (fun K hK => ?_); go_simp) | (apply Exists.intro; refine ⟨fun (_ : Ext) => ?_, ?_⟩; · (first | (go_at_call 59; exact calls_later (c_And _ _ _ _ _)) | (go_at_call 64; exact calls_later (c_Xor _ _ _ _ _)))) | (refine mix_end (fun p => ?_); simp only [List.drop_succ_cons, List.drop_zero]))
  all_goals
    refine bodyPost_ret (v := .agg #[.int .u64 (aDiffer (⟨a0, a1⟩ : A2) (⟨b0, b1⟩ : A2) (⟨m0, m1⟩ : A2)).x, .int .u64 (aDiffer (⟨a0, a1⟩ : A2) (⟨b0, b1⟩ : A2) (⟨m0, m1⟩ : A2)).y]) ?_ rfl ⟨rfl, ?_⟩
    · simp [results, Try.f58, go_sem] <;> (first | rfl | (simp [aDiffer]; done) | (simp [aDiffer] <;> omega) | (simp_all [aDiffer]; done) | (simp only [aDiffer]; (repeat' split) <;> first | rfl | (simp; done) | (exfalso; omega) | (simp; omega)) | (simp_all [aDiffer] <;> omega) | (intros; omega))
    · repeat' (first | with_reducible exact Below.refl _ _ | with_reducible assumption | with_reducible apply below_grews | with_reducible apply Below.drew | with_reducible apply Below.alloc | with_reducible apply Below.setCell | (simp [size_grew, -Nat.not_le, -Nat.not_lt] <;> omega))
set_option maxRecDepth 100000 in
set_option maxHeartbeats 2000000 in
theorem c_clean (x0 x1 x2 x3 : Int)  (w : World) :
    Calls Try.prog 57 #[.agg #[.int .u64 x0, .int .u64 x1, .int .u64 x2, .int .u64 x3]] w fun e w' => e = .returned (.agg #[.int .u64 (wClean (⟨⟨x0, x1⟩, ⟨x2, x3⟩⟩ : W2)).v.x, .int .u64 (wClean (⟨⟨x0, x1⟩, ⟨x2, x3⟩⟩ : W2)).v.y, .int .u64 (wClean (⟨⟨x0, x1⟩, ⟨x2, x3⟩⟩ : W2)).m.x, .int .u64 (wClean (⟨⟨x0, x1⟩, ⟨x2, x3⟩⟩ : W2)).m.y]) ∧ Below w.heap.size w w' := by
  go_enter Try.func57, Try.ntmps57
  go_wp2_with (first | (go_at_call 59; refine (c_And _ _ _ _ _).mono ?_; rintro e w' ⟨rfl, hb⟩; obtain ⟨p, rfl⟩ := below_grew hb; clear hb) | (refine wp_region_mix (id := 1) 8 [(0, true), (1, true), (2, true), (3, true), (4, true), (5, true), (6, true), (7, true)] (by kernel_rfl) (by kernel_rfl) ?_) | (refine mix_quiet rfl (fun K hK => ?_); go_simp) | (apply Exists.intro; refine ⟨fun (_ : Ext) => ?_, ?_⟩; · (first | (go_at_call 59; exact calls_later (c_And _ _ _ _ _)))) | (refine mix_end (fun p => ?_); simp only [List.drop_succ_cons, List.drop_zero]))
  all_goals
    refine bodyPost_ret (v := .agg #[.int .u64 (wClean (⟨⟨x0, x1⟩, ⟨x2, x3⟩⟩ : W2)).v.x, .int .u64 (wClean (⟨⟨x0, x1⟩, ⟨x2, x3⟩⟩ : W2)).v.y, .int .u64 (wClean (⟨⟨x0, x1⟩, ⟨x2, x3⟩⟩ : W2)).m.x, .int .u64 (wClean (⟨⟨x0, x1⟩, ⟨x2, x3⟩⟩ : W2)).m.y]) ?_ rfl ⟨rfl, ?_⟩
    · simp [results, Try.f57, go_sem] <;> (first | rfl | (simp [wClean]; done) | (simp [wClean] <;> omega) | (simp_all [wClean]; done) | (simp only [wClean]; (repeat' split) <;> first | rfl | (simp; done) | (exfalso; omega) | (simp; omega)) | (simp_all [wClean] <;> omega) | (intros; omega))
    · repeat' (first | with_reducible exact Below.refl _ _ | with_reducible assumption | with_reducible apply below_grews | with_reducible apply Below.drew | with_reducible apply Below.alloc | with_reducible apply Below.setCell | (simp [size_grew, -Nat.not_le, -Nat.not_lt] <;> omega))
set_option maxRecDepth 100000 in
set_option maxHeartbeats 2000000 in
theorem c_wRight (x0 x1 x2 x3 : Int)  (w : World) :
    Calls Try.prog 41 #[.agg #[.int .u64 x0, .int .u64 x1, .int .u64 x2, .int .u64 x3]] w fun e w' => e = .returned (.bool (wRight (⟨⟨x0, x1⟩, ⟨x2, x3⟩⟩ : W2))) ∧ Below w.heap.size w w' := by
  go_enter Try.func41, Try.ntmps41
  go_wp2_with (first | (go_at_call 57; refine (c_clean _ _ _ _ _).mono ?_; rintro e w' ⟨rfl, hb⟩; obtain ⟨p, rfl⟩ := below_grew hb; clear hb) | (refine wp_region_mix (id := 1) 4 [(0, true), (1, true), (2, true), (3, true)] (by kernel_rfl) (by kernel_rfl) ?_) | (refine mix_quiet rfl (fun K hK => ?_); go_simp) | (apply Exists.intro; refine ⟨fun (_ : Ext) => ?_, ?_⟩; · (first | (go_at_call 57; exact calls_later (c_clean _ _ _ _ _)))) | (refine mix_end (fun p => ?_); simp only [List.drop_succ_cons, List.drop_zero]))
  all_goals
    refine bodyPost_ret (v := .bool (wRight (⟨⟨x0, x1⟩, ⟨x2, x3⟩⟩ : W2))) ?_ rfl ⟨rfl, ?_⟩
    · simp [results, Try.f41, go_sem] <;> (first | rfl | (simp [wRight]; done) | (simp [wRight] <;> omega) | (simp_all [wRight]; done) | (simp only [wRight]; (repeat' split) <;> first | rfl | (simp; done) | (exfalso; omega) | (simp; omega)) | (simp_all [wRight] <;> omega) | (intros; omega))
    · repeat' (first | with_reducible exact Below.refl _ _ | with_reducible assumption | with_reducible apply below_grews | with_reducible apply Below.drew | with_reducible apply Below.alloc | with_reducible apply Below.setCell | (simp [size_grew, -Nat.not_le, -Nat.not_lt] <;> omega))
set_option maxRecDepth 100000 in
set_option maxHeartbeats 2000000 in
theorem c_wMatch (x0 x1 x2 x3 : Int) (a0 a1 : Int)  (w : World) :
    Calls Try.prog 46 #[.agg #[.int .u64 x0, .int .u64 x1, .int .u64 x2, .int .u64 x3], .agg #[.int .u64 a0, .int .u64 a1]] w fun e w' => e = .returned (.bool (wMatch (⟨⟨x0, x1⟩, ⟨x2, x3⟩⟩ : W2) (⟨a0, a1⟩ : A2))) ∧ Below w.heap.size w w' := by
  go_enter Try.func46, Try.ntmps46
  go_wp2_with (first | (go_at_call 58; refine (c_differ _ _ _ _ _ _ _).mono ?_; rintro e w' ⟨rfl, hb⟩; obtain ⟨p, rfl⟩ := below_grew hb; clear hb))
  all_goals
    refine bodyPost_ret (v := .bool (wMatch (⟨⟨x0, x1⟩, ⟨x2, x3⟩⟩ : W2) (⟨a0, a1⟩ : A2))) ?_ rfl ⟨rfl, ?_⟩
    · simp [results, Try.f46, go_sem] <;> (first | rfl | (simp [wMatch]; done) | (simp [wMatch] <;> omega) | (simp_all [wMatch]; done) | (simp only [wMatch]; (repeat' split) <;> first | rfl | (simp; done) | (exfalso; omega) | (simp; omega)) | (simp_all [wMatch] <;> omega) | (intros; omega))
    · repeat' (first | with_reducible exact Below.refl _ _ | with_reducible assumption | with_reducible apply below_grews | with_reducible apply Below.drew | with_reducible apply Below.alloc | with_reducible apply Below.setCell | (simp [size_grew, -Nat.not_le, -Nat.not_lt] <;> omega))
set_option maxRecDepth 100000 in
set_option maxHeartbeats 2000000 in
theorem c_wMeet (x0 x1 x2 x3 : Int) (y0 y1 y2 y3 : Int)  (w : World) :
    Calls Try.prog 42 #[.agg #[.int .u64 x0, .int .u64 x1, .int .u64 x2, .int .u64 x3], .agg #[.int .u64 y0, .int .u64 y1, .int .u64 y2, .int .u64 y3]] w fun e w' => e = .returned (.bool (wMeet (⟨⟨x0, x1⟩, ⟨x2, x3⟩⟩ : W2) (⟨⟨y0, y1⟩, ⟨y2, y3⟩⟩ : W2))) ∧ Below w.heap.size w w' := by
  go_enter Try.func42, Try.ntmps42
  go_wp2_with (first | (go_at_call 58; refine (c_differ _ _ _ _ _ _ _).mono ?_; rintro e w' ⟨rfl, hb⟩; obtain ⟨p, rfl⟩ := below_grew hb; clear hb) | (go_at_call 59; refine (c_And _ _ _ _ _).mono ?_; rintro e w' ⟨rfl, hb⟩; obtain ⟨p, rfl⟩ := below_grew hb; clear hb) | (refine wp_region_mix (id := 1) 12 [(0, true), (1, true), (2, true), (3, true), (4, true), (5, true), (6, true), (7, true), (8, true), (9, true), (10, true), (11, true)] (by kernel_rfl) (by kernel_rfl) ?_) | (refine mix_quiet rfl (fun K hK => ?_); go_simp) | (apply Exists.intro; refine ⟨fun (_ : Ext) => ?_, ?_⟩; · (first | (go_at_call 58; exact calls_later (c_differ _ _ _ _ _ _ _)) | (go_at_call 59; exact calls_later (c_And _ _ _ _ _)))) | (refine mix_end (fun p => ?_); simp only [List.drop_succ_cons, List.drop_zero]))
  all_goals
    refine bodyPost_ret (v := .bool (wMeet (⟨⟨x0, x1⟩, ⟨x2, x3⟩⟩ : W2) (⟨⟨y0, y1⟩, ⟨y2, y3⟩⟩ : W2))) ?_ rfl ⟨rfl, ?_⟩
    · simp [results, Try.f42, go_sem] <;> (first | rfl | (simp [wMeet]; done) | (simp [wMeet] <;> omega) | (simp_all [wMeet]; done) | (simp only [wMeet]; (repeat' split) <;> first | rfl | (simp; done) | (exfalso; omega) | (simp; omega)) | (simp_all [wMeet] <;> omega) | (intros; omega))
    · repeat' (first | with_reducible exact Below.refl _ _ | with_reducible assumption | with_reducible apply below_grews | with_reducible apply Below.drew | with_reducible apply Below.alloc | with_reducible apply Below.setCell | (simp [size_grew, -Nat.not_le, -Nat.not_lt] <;> omega))
set_option maxRecDepth 100000 in
set_option maxHeartbeats 2000000 in
theorem c_Above (x0 x1 x2 x3 x4 x5 : Int) (y0 y1 y2 y3 y4 y5 : Int)  (w : World) :
    Calls Try.prog 20 #[.agg #[.int .u64 x0, .int .u64 x1, .int .u64 x2, .int .u64 x3, .int .i64 x4, .int .i64 x5], .agg #[.int .u64 y0, .int .u64 y1, .int .u64 y2, .int .u64 y3, .int .i64 y4, .int .i64 y5]] w fun e w' => e = .returned (.bool (eAbove (⟨⟨⟨x0, x1⟩, ⟨x2, x3⟩⟩, x4, x5⟩ : Ent) (⟨⟨⟨y0, y1⟩, ⟨y2, y3⟩⟩, y4, y5⟩ : Ent))) ∧ Below w.heap.size w w' := by
  go_enter Try.func20, Try.ntmps20
  go_wp2_with (first | (go_at_call 42; refine (c_wMeet _ _ _ _ _ _ _ _ _).mono ?_; rintro e w' ⟨rfl, hb⟩; obtain ⟨p, rfl⟩ := below_grew hb; clear hb))
  all_goals
    refine bodyPost_ret (v := .bool (eAbove (⟨⟨⟨x0, x1⟩, ⟨x2, x3⟩⟩, x4, x5⟩ : Ent) (⟨⟨⟨y0, y1⟩, ⟨y2, y3⟩⟩, y4, y5⟩ : Ent))) ?_ rfl ⟨rfl, ?_⟩
    · simp [results, Try.f20, go_sem] <;> (first | rfl | (simp [eAbove]; done) | (simp [eAbove] <;> omega) | (simp_all [eAbove]; done) | (simp only [eAbove]; (repeat' split) <;> first | rfl | (simp; done) | (exfalso; omega) | (simp; omega)) | (simp_all [eAbove] <;> omega) | (intros; omega))
    · repeat' (first | with_reducible exact Below.refl _ _ | with_reducible assumption | with_reducible apply below_grews | with_reducible apply Below.drew | with_reducible apply Below.alloc | with_reducible apply Below.setCell | (simp [size_grew, -Nat.not_le, -Nat.not_lt] <;> omega))
set_option maxRecDepth 100000 in
set_option maxHeartbeats 2000000 in
theorem c_Alike (x0 x1 x2 x3 x4 x5 : Int) (y0 y1 y2 y3 y4 y5 : Int)  (w : World) :
    Calls Try.prog 22 #[.agg #[.int .u64 x0, .int .u64 x1, .int .u64 x2, .int .u64 x3, .int .i64 x4, .int .i64 x5], .agg #[.int .u64 y0, .int .u64 y1, .int .u64 y2, .int .u64 y3, .int .i64 y4, .int .i64 y5]] w fun e w' => e = .returned (.bool (eAlike (⟨⟨⟨x0, x1⟩, ⟨x2, x3⟩⟩, x4, x5⟩ : Ent) (⟨⟨⟨y0, y1⟩, ⟨y2, y3⟩⟩, y4, y5⟩ : Ent))) ∧ Below w.heap.size w w' := by
  go_enter Try.func22, Try.ntmps22
  go_wp2
  all_goals
    refine bodyPost_ret (v := .bool (eAlike (⟨⟨⟨x0, x1⟩, ⟨x2, x3⟩⟩, x4, x5⟩ : Ent) (⟨⟨⟨y0, y1⟩, ⟨y2, y3⟩⟩, y4, y5⟩ : Ent))) ?_ rfl ⟨rfl, ?_⟩
    · simp [results, Try.f22, go_sem] <;> (first | rfl | (simp [eAlike]; done) | (simp [eAlike] <;> omega) | (simp_all [eAlike]; done) | (simp only [eAlike]; (repeat' split) <;> first | rfl | (simp; done) | (exfalso; omega) | (simp; omega)) | (simp_all [eAlike] <;> omega) | (intros; omega))
    · repeat' (first | with_reducible exact Below.refl _ _ | with_reducible assumption | with_reducible apply below_grews | with_reducible apply Below.drew | with_reducible apply Below.alloc | with_reducible apply Below.setCell | (simp [size_grew, -Nat.not_le, -Nat.not_lt] <;> omega))
end Go.Proofs.Ytjgjohonbjmakaa
