/- What single calls do: words. -/
import Derived.Test.YtmmibfjhjbjgeaaProg
import Derived.Test.YtmmibfjhjbjgeaaZMix
import Derived.Test.YtmmibfjhjbjgeaaZSpec
import Derived.Test.YtmmibfjhjbjgeaaZEq
import Derived.WalkKit
import Derived.WalkSpells
import Derived.WalkLawsBesides
import Derived.KernelRfl
namespace Go.Proofs.Ytmmibfjhjbjgeaa
open Go.RowKit
set_option linter.unusedSimpArgs false
set_option linter.unusedVariables false
attribute [local go_sem high] eql_41 neq_41 eql_33 neq_33 eql_43 neq_43 eql_35 neq_35 eql_45 neq_45 eql_37 neq_37 eql_63 neq_63 eql_103 neq_103 eql_86 neq_86 eql_105 neq_105 eql_47 neq_47 eql_39 neq_39
attribute [local go_sem ↓ high] yielded_undef
attribute [local go_sem] eqg_41 eqg_33 eqg_43 eqg_35 eqg_45 eqg_37 eqg_63 eqg_103 eqg_86 eqg_105 eqg_47 eqg_39 cell_grew frozen_grew size_grew grew_grew drewN_grew lt_addk size_setW Instr.field asAgg lt_gi_k lt_gi_kh lt_gi_k_k lt_gi_k_kh lt_gi_k_k_k lt_gi_k_k_kh lt_gi_i_k lt_gi_i_kh lt_gi_i_k_k lt_gi_i_k_kh lt_gi_i_k_k_k lt_gi_i_k_k_kh lt_gi_i_i_k lt_gi_i_i_kh lt_gi_i_i_k_k lt_gi_i_i_k_kh lt_gi_i_i_k_k_k lt_gi_i_i_k_k_kh lt_gi_i_i_i_k lt_gi_i_i_i_kh lt_gi_i_i_i_k_k lt_gi_i_i_i_k_kh lt_gi_i_i_i_k_k_k lt_gi_i_i_i_k_k_kh lt_gi_i_i_i_i_k lt_gi_i_i_i_i_kh lt_gi_i_i_i_i_k_k lt_gi_i_i_i_i_k_kh lt_gi_i_i_i_i_k_k_k lt_gi_i_i_i_i_k_k_kh lt_gi_i_i_i_i_i_k lt_gi_i_i_i_i_i_kh lt_gi_i_i_i_i_i_k_k lt_gi_i_i_i_i_i_k_kh lt_gi_i_i_i_i_i_k_k_k lt_gi_i_i_i_i_i_k_k_kh lt_gi_i_i_i_i_i_i_k lt_gi_i_i_i_i_i_i_kh lt_gi_i_i_i_i_i_i_k_k lt_gi_i_i_i_i_i_i_k_kh lt_gi_i_i_i_i_i_i_k_k_k lt_gi_i_i_i_i_i_i_k_k_kh lt_gi_i_i_i_i_i_i_i_k lt_gi_i_i_i_i_i_i_i_kh lt_gi_i_i_i_i_i_i_i_k_k lt_gi_i_i_i_i_i_i_i_k_kh lt_gi_i_i_i_i_i_i_i_k_k_k lt_gi_i_i_i_i_i_i_i_k_k_kh lt_gi_k_i lt_gi_k_ih lt_gi_k_i_k lt_gi_k_i_kh lt_gi_k_k_i lt_gi_k_k_ih lt_gi_k_k_i_k lt_gi_k_k_i_kh lt_gi_k_i_i lt_gi_k_i_ih lt_gi_k_i_i_k lt_gi_k_i_i_kh lt_gi_k_k_i_i lt_gi_k_k_i_ih lt_gi_k_k_i_i_k lt_gi_k_k_i_i_kh lt_gi_k_i_i_i lt_gi_k_i_i_ih lt_gi_k_i_i_i_k lt_gi_k_i_i_i_kh lt_gi_k_k_i_i_i lt_gi_k_k_i_i_ih lt_gi_k_k_i_i_i_k lt_gi_k_k_i_i_i_kh lt_gi_i_k_i lt_gi_i_k_ih lt_gi_i_k_i_k lt_gi_i_k_i_kh lt_gi_i_k_k_i lt_gi_i_k_k_ih lt_gi_i_k_k_i_k lt_gi_i_k_k_i_kh lt_gi_i_k_i_i lt_gi_i_k_i_ih lt_gi_i_k_i_i_k lt_gi_i_k_i_i_kh lt_gi_i_k_k_i_i lt_gi_i_k_k_i_ih lt_gi_i_k_k_i_i_k lt_gi_i_k_k_i_i_kh lt_gi_i_k_i_i_i lt_gi_i_k_i_i_ih lt_gi_i_k_i_i_i_k lt_gi_i_k_i_i_i_kh lt_gi_i_k_k_i_i_i lt_gi_i_k_k_i_i_ih lt_gi_i_k_k_i_i_i_k lt_gi_i_k_k_i_i_i_kh lt_gi_i_i_k_i lt_gi_i_i_k_ih lt_gi_i_i_k_i_k lt_gi_i_i_k_i_kh lt_gi_i_i_k_k_i lt_gi_i_i_k_k_ih lt_gi_i_i_k_k_i_k lt_gi_i_i_k_k_i_kh lt_gi_i_i_k_i_i lt_gi_i_i_k_i_ih lt_gi_i_i_k_i_i_k lt_gi_i_i_k_i_i_kh lt_gi_i_i_k_k_i_i lt_gi_i_i_k_k_i_ih lt_gi_i_i_k_k_i_i_k lt_gi_i_i_k_k_i_i_kh lt_gi_i_i_k_i_i_i lt_gi_i_i_k_i_i_ih lt_gi_i_i_k_i_i_i_k lt_gi_i_i_k_i_i_i_kh lt_gi_i_i_k_k_i_i_i lt_gi_i_i_k_k_i_i_ih lt_gi_i_i_k_k_i_i_i_k lt_gi_i_i_k_k_i_i_i_kh lt_gi_i_i_i_k_i lt_gi_i_i_i_k_ih lt_gi_i_i_i_k_i_k lt_gi_i_i_i_k_i_kh lt_gi_i_i_i_k_k_i lt_gi_i_i_i_k_k_ih lt_gi_i_i_i_k_k_i_k lt_gi_i_i_i_k_k_i_kh lt_gi_i_i_i_k_i_i lt_gi_i_i_i_k_i_ih lt_gi_i_i_i_k_i_i_k lt_gi_i_i_i_k_i_i_kh lt_gi_i_i_i_k_k_i_i lt_gi_i_i_i_k_k_i_ih lt_gi_i_i_i_k_k_i_i_k lt_gi_i_i_i_k_k_i_i_kh lt_gi_i_i_i_k_i_i_i lt_gi_i_i_i_k_i_i_ih lt_gi_i_i_i_k_i_i_i_k lt_gi_i_i_i_k_i_i_i_kh lt_gi_i_i_i_k_k_i_i_i lt_gi_i_i_i_k_k_i_i_ih lt_gi_i_i_i_k_k_i_i_i_k lt_gi_i_i_i_k_k_i_i_i_kh lt_gi_i_i_i_i_k_i lt_gi_i_i_i_i_k_ih lt_gi_i_i_i_i_k_i_k lt_gi_i_i_i_i_k_i_kh lt_gi_i_i_i_i_k_k_i lt_gi_i_i_i_i_k_k_ih lt_gi_i_i_i_i_k_k_i_k lt_gi_i_i_i_i_k_k_i_kh lt_gi_i_i_i_i_k_i_i lt_gi_i_i_i_i_k_i_ih lt_gi_i_i_i_i_k_i_i_k lt_gi_i_i_i_i_k_i_i_kh lt_gi_i_i_i_i_k_k_i_i lt_gi_i_i_i_i_k_k_i_ih lt_gi_i_i_i_i_k_k_i_i_k lt_gi_i_i_i_i_k_k_i_i_kh lt_gi_i_i_i_i_k_i_i_i lt_gi_i_i_i_i_k_i_i_ih lt_gi_i_i_i_i_k_i_i_i_k lt_gi_i_i_i_i_k_i_i_i_kh lt_gi_i_i_i_i_k_k_i_i_i lt_gi_i_i_i_i_k_k_i_i_ih lt_gi_i_i_i_i_k_k_i_i_i_k lt_gi_i_i_i_i_k_k_i_i_i_kh
set_option maxRecDepth 100000 in
set_option maxHeartbeats 2000000 in
theorem c_And (a0 a1 : Int) (b0 b1 : Int)  (w : World) :
    Calls Try.prog 69 #[.agg #[.int .u64 a0, .int .u64 a1], .agg #[.int .u64 b0, .int .u64 b1]] w fun e w' => e = .returned (.agg #[.int .u64 (aAnd (⟨a0, a1⟩ : A2) (⟨b0, b1⟩ : A2)).x, .int .u64 (aAnd (⟨a0, a1⟩ : A2) (⟨b0, b1⟩ : A2)).y]) ∧ Below w.heap.size w w' := by
  go_enter Try.func69, Try.ntmps69
  go_wp2
  all_goals
    refine bodyPost_ret (v := .agg #[.int .u64 (aAnd (⟨a0, a1⟩ : A2) (⟨b0, b1⟩ : A2)).x, .int .u64 (aAnd (⟨a0, a1⟩ : A2) (⟨b0, b1⟩ : A2)).y]) ?_ rfl ⟨rfl, ?_⟩
    · simp [results, Try.f69, go_sem] <;> (first | rfl | (simp [aAnd]; done) | (simp [aAnd] <;> omega) | (simp_all [aAnd]; done) | (simp only [aAnd]; (repeat' split) <;> first | rfl | (simp; done) | (exfalso; omega) | (simp; omega)) | (simp_all [aAnd] <;> omega) | (intros; omega))
    · repeat' (first | with_reducible exact Below.refl _ _ | with_reducible assumption | with_reducible apply below_grews | with_reducible apply Below.drew | with_reducible apply Below.alloc | with_reducible apply Below.setCell | (simp [size_grew, -Nat.not_le, -Nat.not_lt] <;> omega))
set_option maxRecDepth 100000 in
set_option maxHeartbeats 2000000 in
theorem c_Xor (a0 a1 : Int) (b0 b1 : Int)  (w : World) :
    Calls Try.prog 96 #[.agg #[.int .u64 a0, .int .u64 a1], .agg #[.int .u64 b0, .int .u64 b1]] w fun e w' => e = .returned (.agg #[.int .u64 (aXor (⟨a0, a1⟩ : A2) (⟨b0, b1⟩ : A2)).x, .int .u64 (aXor (⟨a0, a1⟩ : A2) (⟨b0, b1⟩ : A2)).y]) ∧ Below w.heap.size w w' := by
  go_enter Try.func96, Try.ntmps96
  go_wp2
  all_goals
    refine bodyPost_ret (v := .agg #[.int .u64 (aXor (⟨a0, a1⟩ : A2) (⟨b0, b1⟩ : A2)).x, .int .u64 (aXor (⟨a0, a1⟩ : A2) (⟨b0, b1⟩ : A2)).y]) ?_ rfl ⟨rfl, ?_⟩
    · simp [results, Try.f96, go_sem] <;> (first | rfl | (simp [aXor]; done) | (simp [aXor] <;> omega) | (simp_all [aXor]; done) | (simp only [aXor]; (repeat' split) <;> first | rfl | (simp; done) | (exfalso; omega) | (simp; omega)) | (simp_all [aXor] <;> omega) | (intros; omega))
    · repeat' (first | with_reducible exact Below.refl _ _ | with_reducible assumption | with_reducible apply below_grews | with_reducible apply Below.drew | with_reducible apply Below.alloc | with_reducible apply Below.setCell | (simp [size_grew, -Nat.not_le, -Nat.not_lt] <;> omega))
set_option maxRecDepth 100000 in
set_option maxHeartbeats 2000000 in
theorem c_differ (a0 a1 : Int) (b0 b1 : Int) (m0 m1 : Int)  (w : World) :
    Calls Try.prog 93 #[.agg #[.int .u64 a0, .int .u64 a1], .agg #[.int .u64 b0, .int .u64 b1], .agg #[.int .u64 m0, .int .u64 m1]] w fun e w' => e = .returned (.agg #[.int .u64 (aDiffer (⟨a0, a1⟩ : A2) (⟨b0, b1⟩ : A2) (⟨m0, m1⟩ : A2)).x, .int .u64 (aDiffer (⟨a0, a1⟩ : A2) (⟨b0, b1⟩ : A2) (⟨m0, m1⟩ : A2)).y]) ∧ Below w.heap.size w w' := by
  go_enter Try.func93, Try.ntmps93
  go_wp2_with (first | (go_at_call 69; refine (c_And _ _ _ _ _).mono ?_; rintro e w' ⟨rfl, hb⟩; obtain ⟨p, rfl⟩ := below_grew hb; clear hb) | (go_at_call 96; refine (c_Xor _ _ _ _ _).mono ?_; rintro e w' ⟨rfl, hb⟩; obtain ⟨p, rfl⟩ := below_grew hb; clear hb) | (refine wp_region_mix (id := 1) 5 [(0, true), (1, true), (2, true), (3, true), (4, true)] (by kernel_rfl) (by kernel_rfl) ?_) | (refine mix_quiet rfl (fun K hK => ?_); go_simp) | (apply Exists.intro; refine ⟨fun (_ : Ext) => ?_, ?_⟩; · (first | (go_at_call 69; exact calls_later (c_And _ _ _ _ _)) | (go_at_call 96; exact calls_later (c_Xor _ _ _ _ _)))) | (refine mix_end (fun p => ?_); simp only [List.drop_succ_cons, List.drop_zero]))
  all_goals
    refine bodyPost_ret (v := .agg #[.int .u64 (aDiffer (⟨a0, a1⟩ : A2) (⟨b0, b1⟩ : A2) (⟨m0, m1⟩ : A2)).x, .int .u64 (aDiffer (⟨a0, a1⟩ : A2) (⟨b0, b1⟩ : A2) (⟨m0, m1⟩ : A2)).y]) ?_ rfl ⟨rfl, ?_⟩
    · simp [results, Try.f93, go_sem] <;> (first | rfl | (simp [aDiffer]; done) | (simp [aDiffer] <;> omega) | (simp_all [aDiffer]; done) | (simp only [aDiffer]; (repeat' split) <;> first | rfl | (simp; done) | (exfalso; omega) | (simp; omega)) | (simp_all [aDiffer] <;> omega) | (intros; omega))
    · repeat' (first | with_reducible exact Below.refl _ _ | with_reducible assumption | with_reducible apply below_grews | with_reducible apply Below.drew | with_reducible apply Below.alloc | with_reducible apply Below.setCell | (simp [size_grew, -Nat.not_le, -Nat.not_lt] <;> omega))
set_option maxRecDepth 100000 in
set_option maxHeartbeats 2000000 in
theorem c_clean (x0 x1 x2 x3 : Int)  (w : World) :
    Calls Try.prog 95 #[.agg #[.int .u64 x0, .int .u64 x1, .int .u64 x2, .int .u64 x3]] w fun e w' => e = .returned (.agg #[.int .u64 (wClean (⟨⟨x0, x1⟩, ⟨x2, x3⟩⟩ : W2)).v.x, .int .u64 (wClean (⟨⟨x0, x1⟩, ⟨x2, x3⟩⟩ : W2)).v.y, .int .u64 (wClean (⟨⟨x0, x1⟩, ⟨x2, x3⟩⟩ : W2)).m.x, .int .u64 (wClean (⟨⟨x0, x1⟩, ⟨x2, x3⟩⟩ : W2)).m.y]) ∧ Below w.heap.size w w' := by
  go_enter Try.func95, Try.ntmps95
  go_wp2_with (first | (go_at_call 69; refine (c_And _ _ _ _ _).mono ?_; rintro e w' ⟨rfl, hb⟩; obtain ⟨p, rfl⟩ := below_grew hb; clear hb) | (refine wp_region_mix (id := 1) 8 [(0, true), (1, true), (2, true), (3, true), (4, true), (5, true), (6, true), (7, true)] (by kernel_rfl) (by kernel_rfl) ?_) | (refine mix_quiet rfl (fun K hK => ?_); go_simp) | (apply Exists.intro; refine ⟨fun (_ : Ext) => ?_, ?_⟩; · (first | (go_at_call 69; exact calls_later (c_And _ _ _ _ _)))) | (refine mix_end (fun p => ?_); simp only [List.drop_succ_cons, List.drop_zero]))
  all_goals
    refine bodyPost_ret (v := .agg #[.int .u64 (wClean (⟨⟨x0, x1⟩, ⟨x2, x3⟩⟩ : W2)).v.x, .int .u64 (wClean (⟨⟨x0, x1⟩, ⟨x2, x3⟩⟩ : W2)).v.y, .int .u64 (wClean (⟨⟨x0, x1⟩, ⟨x2, x3⟩⟩ : W2)).m.x, .int .u64 (wClean (⟨⟨x0, x1⟩, ⟨x2, x3⟩⟩ : W2)).m.y]) ?_ rfl ⟨rfl, ?_⟩
    · simp [results, Try.f95, go_sem] <;> (first | rfl | (simp [wClean]; done) | (simp [wClean] <;> omega) | (simp_all [wClean]; done) | (simp only [wClean]; (repeat' split) <;> first | rfl | (simp; done) | (exfalso; omega) | (simp; omega)) | (simp_all [wClean] <;> omega) | (intros; omega))
    · repeat' (first | with_reducible exact Below.refl _ _ | with_reducible assumption | with_reducible apply below_grews | with_reducible apply Below.drew | with_reducible apply Below.alloc | with_reducible apply Below.setCell | (simp [size_grew, -Nat.not_le, -Nat.not_lt] <;> omega))
set_option maxRecDepth 100000 in
set_option maxHeartbeats 2000000 in
theorem c_Alike (x0 x1 x2 x3 x4 x5 : Int) (y0 y1 y2 y3 y4 y5 : Int)  (w : World) :
    Calls Try.prog 35 #[.agg #[.int .u64 x0, .int .u64 x1, .int .u64 x2, .int .u64 x3, .int .i64 x4, .int .i64 x5], .agg #[.int .u64 y0, .int .u64 y1, .int .u64 y2, .int .u64 y3, .int .i64 y4, .int .i64 y5]] w fun e w' => e = .returned (.bool (eAlike (⟨⟨⟨x0, x1⟩, ⟨x2, x3⟩⟩, x4, x5⟩ : Ent) (⟨⟨⟨y0, y1⟩, ⟨y2, y3⟩⟩, y4, y5⟩ : Ent))) ∧ Below w.heap.size w w' := by
  go_enter Try.func35, Try.ntmps35
  go_wp2
  all_goals
    refine bodyPost_ret (v := .bool (eAlike (⟨⟨⟨x0, x1⟩, ⟨x2, x3⟩⟩, x4, x5⟩ : Ent) (⟨⟨⟨y0, y1⟩, ⟨y2, y3⟩⟩, y4, y5⟩ : Ent))) ?_ rfl ⟨rfl, ?_⟩
    · simp [results, Try.f35, go_sem] <;> (first | rfl | (simp [eAlike]; done) | (simp [eAlike] <;> omega) | (simp_all [eAlike]; done) | (simp only [eAlike]; (repeat' split) <;> first | rfl | (simp; done) | (exfalso; omega) | (simp; omega)) | (simp_all [eAlike] <;> omega) | (intros; omega))
    · repeat' (first | with_reducible exact Below.refl _ _ | with_reducible assumption | with_reducible apply below_grews | with_reducible apply Below.drew | with_reducible apply Below.alloc | with_reducible apply Below.setCell | (simp [size_grew, -Nat.not_le, -Nat.not_lt] <;> omega))
end Go.Proofs.Ytmmibfjhjbjgeaa
