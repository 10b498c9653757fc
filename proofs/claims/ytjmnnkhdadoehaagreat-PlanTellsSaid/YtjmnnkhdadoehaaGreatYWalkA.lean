/- What single calls do: words. -/
import Derived.Test.YtjmnnkhdadoehaaGreatProg
import Derived.Test.YtjmnnkhdadoehaaGreatYRegion
import Derived.Test.YtjmnnkhdadoehaaGreatYSpec
import Derived.Test.YtjmnnkhdadoehaaGreatYEq
import Derived.WalkKit
import Derived.WalkSpells
import Derived.WalkLawsBesides
import Derived.KernelRfl
namespace Go.Proofs.YtjmnnkhdadoehaaGreat
open Go.RowKit
set_option linter.unusedSimpArgs false
set_option linter.unusedVariables false
attribute [local go_sem high] eql_25 neq_25 eql_44 neq_62 eql_48 eql_50
attribute [local go_sem] eqg_25 eqg_62 eqg_48 eqg_50 cell_grew frozen_grew size_grew grew_grew lt_addk Instr.field asAgg lt_gi_k
set_option maxRecDepth 100000 in
set_option maxHeartbeats 2000000 in
theorem c_And (a0 a1 : Int) (b0 b1 : Int)  (w : World) :
    Calls Tryz.prog 123 #[.agg #[.int .u64 a0, .int .u64 a1], .agg #[.int .u64 b0, .int .u64 b1]] w fun e w' => e = .returned (.agg #[.int .u64 (aAnd (⟨a0, a1⟩ : A2) (⟨b0, b1⟩ : A2)).x, .int .u64 (aAnd (⟨a0, a1⟩ : A2) (⟨b0, b1⟩ : A2)).y]) ∧ Below w.heap.size w w' := by
  go_enter Tryz.func123, Tryz.ntmps123
  go_wp2
  all_goals
    refine bodyPost_ret (v := .agg #[.int .u64 (aAnd (⟨a0, a1⟩ : A2) (⟨b0, b1⟩ : A2)).x, .int .u64 (aAnd (⟨a0, a1⟩ : A2) (⟨b0, b1⟩ : A2)).y]) ?_ rfl ⟨rfl, ?_⟩
    · simp [results, Tryz.f123, go_sem] <;> (first | rfl | (simp [aAnd]; done) | (simp [aAnd] <;> omega) | (simp_all [aAnd]; done) | (simp only [aAnd]; (repeat' split) <;> first | rfl | (simp; done) | (exfalso; omega) | (simp; omega)) | (simp_all [aAnd] <;> omega) | (intros; omega))
    · repeat' (first | with_reducible exact Below.refl _ _ | with_reducible assumption | with_reducible apply below_grews | with_reducible apply Below.drew | with_reducible apply Below.alloc | with_reducible apply Below.setCell | (simp [size_grew, -Nat.not_le, -Nat.not_lt] <;> omega))
set_option maxRecDepth 100000 in
set_option maxHeartbeats 2000000 in
theorem c_Xor (a0 a1 : Int) (b0 b1 : Int)  (w : World) :
    Calls Tryz.prog 126 #[.agg #[.int .u64 a0, .int .u64 a1], .agg #[.int .u64 b0, .int .u64 b1]] w fun e w' => e = .returned (.agg #[.int .u64 (aXor (⟨a0, a1⟩ : A2) (⟨b0, b1⟩ : A2)).x, .int .u64 (aXor (⟨a0, a1⟩ : A2) (⟨b0, b1⟩ : A2)).y]) ∧ Below w.heap.size w w' := by
  go_enter Tryz.func126, Tryz.ntmps126
  go_wp2
  all_goals
    refine bodyPost_ret (v := .agg #[.int .u64 (aXor (⟨a0, a1⟩ : A2) (⟨b0, b1⟩ : A2)).x, .int .u64 (aXor (⟨a0, a1⟩ : A2) (⟨b0, b1⟩ : A2)).y]) ?_ rfl ⟨rfl, ?_⟩
    · simp [results, Tryz.f126, go_sem] <;> (first | rfl | (simp [aXor]; done) | (simp [aXor] <;> omega) | (simp_all [aXor]; done) | (simp only [aXor]; (repeat' split) <;> first | rfl | (simp; done) | (exfalso; omega) | (simp; omega)) | (simp_all [aXor] <;> omega) | (intros; omega))
    · repeat' (first | with_reducible exact Below.refl _ _ | with_reducible assumption | with_reducible apply below_grews | with_reducible apply Below.drew | with_reducible apply Below.alloc | with_reducible apply Below.setCell | (simp [size_grew, -Nat.not_le, -Nat.not_lt] <;> omega))
set_option maxRecDepth 100000 in
set_option maxHeartbeats 2000000 in
theorem c_differ (a0 a1 : Int) (b0 b1 : Int) (m0 m1 : Int)  (w : World) :
    Calls Tryz.prog 103 #[.agg #[.int .u64 a0, .int .u64 a1], .agg #[.int .u64 b0, .int .u64 b1], .agg #[.int .u64 m0, .int .u64 m1]] w fun e w' => e = .returned (.agg #[.int .u64 (aDiffer (⟨a0, a1⟩ : A2) (⟨b0, b1⟩ : A2) (⟨m0, m1⟩ : A2)).x, .int .u64 (aDiffer (⟨a0, a1⟩ : A2) (⟨b0, b1⟩ : A2) (⟨m0, m1⟩ : A2)).y]) ∧ Below w.heap.size w w' := by
  go_enter Tryz.func103, Tryz.ntmps103
  go_wp2_with (first | (go_at_call 123; refine (c_And _ _ _ _ _).mono ?_; rintro e w' ⟨rfl, hb⟩; obtain ⟨p, rfl⟩ := below_grew hb; clear hb) | (go_at_call 126; refine (c_Xor _ _ _ _ _).mono ?_; rintro e w' ⟨rfl, hb⟩; obtain ⟨p, rfl⟩ := below_grew hb; clear hb) | (refine wp_region_mix (id := 1) 5 [(0, true), (1, true), (2, true), (3, true), (4, true)] (by kernel_rfl) (by kernel_rfl) ?_) | (refine mix_quiet rfl (fun K hK => ?_); go_simp) | (apply Exists.intro; refine ⟨fun (_ : Ext) => ?_, ?_⟩; · (first | (go_at_call 123; exact calls_later (c_And _ _ _ _ _)) | (go_at_call 126; exact calls_later (c_Xor _ _ _ _ _)))) | (refine mix_end (fun p => ?_); simp only [List.drop_succ_cons, List.drop_zero]))
  all_goals
    refine bodyPost_ret (v := .agg #[.int .u64 (aDiffer (⟨a0, a1⟩ : A2) (⟨b0, b1⟩ : A2) (⟨m0, m1⟩ : A2)).x, .int .u64 (aDiffer (⟨a0, a1⟩ : A2) (⟨b0, b1⟩ : A2) (⟨m0, m1⟩ : A2)).y]) ?_ rfl ⟨rfl, ?_⟩
    · simp [results, Tryz.f103, go_sem] <;> (first | rfl | (simp [aDiffer]; done) | (simp [aDiffer] <;> omega) | (simp_all [aDiffer]; done) | (simp only [aDiffer]; (repeat' split) <;> first | rfl | (simp; done) | (exfalso; omega) | (simp; omega)) | (simp_all [aDiffer] <;> omega) | (intros; omega))
    · repeat' (first | with_reducible exact Below.refl _ _ | with_reducible assumption | with_reducible apply below_grews | with_reducible apply Below.drew | with_reducible apply Below.alloc | with_reducible apply Below.setCell | (simp [size_grew, -Nat.not_le, -Nat.not_lt] <;> omega))
set_option maxRecDepth 100000 in
set_option maxHeartbeats 2000000 in
theorem c_clean (x0 x1 x2 x3 : Int)  (w : World) :
    Calls Tryz.prog 124 #[.agg #[.int .u64 x0, .int .u64 x1, .int .u64 x2, .int .u64 x3]] w fun e w' => e = .returned (.agg #[.int .u64 (wClean (⟨⟨x0, x1⟩, ⟨x2, x3⟩⟩ : W2)).v.x, .int .u64 (wClean (⟨⟨x0, x1⟩, ⟨x2, x3⟩⟩ : W2)).v.y, .int .u64 (wClean (⟨⟨x0, x1⟩, ⟨x2, x3⟩⟩ : W2)).m.x, .int .u64 (wClean (⟨⟨x0, x1⟩, ⟨x2, x3⟩⟩ : W2)).m.y]) ∧ Below w.heap.size w w' := by
  go_enter Tryz.func124, Tryz.ntmps124
  go_wp2_with (first | (go_at_call 123; refine (c_And _ _ _ _ _).mono ?_; rintro e w' ⟨rfl, hb⟩; obtain ⟨p, rfl⟩ := below_grew hb; clear hb) | (refine wp_region_mix (id := 1) 8 [(0, true), (1, true), (2, true), (3, true), (4, true), (5, true), (6, true), (7, true)] (by kernel_rfl) (by kernel_rfl) ?_) | (refine mix_quiet rfl (fun K hK => ?_); go_simp) | (apply Exists.intro; refine ⟨fun (_ : Ext) => ?_, ?_⟩; · (first | (go_at_call 123; exact calls_later (c_And _ _ _ _ _)))) | (refine mix_end (fun p => ?_); simp only [List.drop_succ_cons, List.drop_zero]))
  all_goals
    refine bodyPost_ret (v := .agg #[.int .u64 (wClean (⟨⟨x0, x1⟩, ⟨x2, x3⟩⟩ : W2)).v.x, .int .u64 (wClean (⟨⟨x0, x1⟩, ⟨x2, x3⟩⟩ : W2)).v.y, .int .u64 (wClean (⟨⟨x0, x1⟩, ⟨x2, x3⟩⟩ : W2)).m.x, .int .u64 (wClean (⟨⟨x0, x1⟩, ⟨x2, x3⟩⟩ : W2)).m.y]) ?_ rfl ⟨rfl, ?_⟩
    · simp [results, Tryz.f124, go_sem] <;> (first | rfl | (simp [wClean]; done) | (simp [wClean] <;> omega) | (simp_all [wClean]; done) | (simp only [wClean]; (repeat' split) <;> first | rfl | (simp; done) | (exfalso; omega) | (simp; omega)) | (simp_all [wClean] <;> omega) | (intros; omega))
    · repeat' (first | with_reducible exact Below.refl _ _ | with_reducible assumption | with_reducible apply below_grews | with_reducible apply Below.drew | with_reducible apply Below.alloc | with_reducible apply Below.setCell | (simp [size_grew, -Nat.not_le, -Nat.not_lt] <;> omega))
set_option maxRecDepth 100000 in
set_option maxHeartbeats 2000000 in
theorem c_wRight (x0 x1 x2 x3 : Int)  (w : World) :
    Calls Tryz.prog 96 #[.agg #[.int .u64 x0, .int .u64 x1, .int .u64 x2, .int .u64 x3]] w fun e w' => e = .returned (.bool (wRight (⟨⟨x0, x1⟩, ⟨x2, x3⟩⟩ : W2))) ∧ Below w.heap.size w w' := by
  go_enter Tryz.func96, Tryz.ntmps96
  go_wp2_with (first | (go_at_call 124; refine (c_clean _ _ _ _ _).mono ?_; rintro e w' ⟨rfl, hb⟩; obtain ⟨p, rfl⟩ := below_grew hb; clear hb) | (refine wp_region_mix (id := 1) 4 [(0, true), (1, true), (2, true), (3, true)] (by kernel_rfl) (by kernel_rfl) ?_) | (refine mix_quiet rfl (fun K hK => ?_); go_simp) | (apply Exists.intro; refine ⟨fun (_ : Ext) => ?_, ?_⟩; · (first | (go_at_call 124; exact calls_later (c_clean _ _ _ _ _)))) | (refine mix_end (fun p => ?_); simp only [List.drop_succ_cons, List.drop_zero]))
  all_goals
    refine bodyPost_ret (v := .bool (wRight (⟨⟨x0, x1⟩, ⟨x2, x3⟩⟩ : W2))) ?_ rfl ⟨rfl, ?_⟩
    · simp [results, Tryz.f96, go_sem] <;> (first | rfl | (simp [wRight]; done) | (simp [wRight] <;> omega) | (simp_all [wRight]; done) | (simp only [wRight]; (repeat' split) <;> first | rfl | (simp; done) | (exfalso; omega) | (simp; omega)) | (simp_all [wRight] <;> omega) | (intros; omega))
    · repeat' (first | with_reducible exact Below.refl _ _ | with_reducible assumption | with_reducible apply below_grews | with_reducible apply Below.drew | with_reducible apply Below.alloc | with_reducible apply Below.setCell | (simp [size_grew, -Nat.not_le, -Nat.not_lt] <;> omega))
set_option maxRecDepth 100000 in
set_option maxHeartbeats 2000000 in
theorem c_wMatch (x0 x1 x2 x3 : Int) (a0 a1 : Int)  (w : World) :
    Calls Tryz.prog 73 #[.agg #[.int .u64 x0, .int .u64 x1, .int .u64 x2, .int .u64 x3], .agg #[.int .u64 a0, .int .u64 a1]] w fun e w' => e = .returned (.bool (wMatch (⟨⟨x0, x1⟩, ⟨x2, x3⟩⟩ : W2) (⟨a0, a1⟩ : A2))) ∧ Below w.heap.size w w' := by
  go_enter Tryz.func73, Tryz.ntmps73
  go_wp2_with (first | (go_at_call 103; refine (c_differ _ _ _ _ _ _ _).mono ?_; rintro e w' ⟨rfl, hb⟩; obtain ⟨p, rfl⟩ := below_grew hb; clear hb))
  all_goals
    refine bodyPost_ret (v := .bool (wMatch (⟨⟨x0, x1⟩, ⟨x2, x3⟩⟩ : W2) (⟨a0, a1⟩ : A2))) ?_ rfl ⟨rfl, ?_⟩
    · simp [results, Tryz.f73, go_sem] <;> (first | rfl | (simp [wMatch]; done) | (simp [wMatch] <;> omega) | (simp_all [wMatch]; done) | (simp only [wMatch]; (repeat' split) <;> first | rfl | (simp; done) | (exfalso; omega) | (simp; omega)) | (simp_all [wMatch] <;> omega) | (intros; omega))
    · repeat' (first | with_reducible exact Below.refl _ _ | with_reducible assumption | with_reducible apply below_grews | with_reducible apply Below.drew | with_reducible apply Below.alloc | with_reducible apply Below.setCell | (simp [size_grew, -Nat.not_le, -Nat.not_lt] <;> omega))
set_option maxRecDepth 100000 in
set_option maxHeartbeats 2000000 in
theorem c_wMeet (x0 x1 x2 x3 : Int) (y0 y1 y2 y3 : Int)  (w : World) :
    Calls Tryz.prog 149 #[.agg #[.int .u64 x0, .int .u64 x1, .int .u64 x2, .int .u64 x3], .agg #[.int .u64 y0, .int .u64 y1, .int .u64 y2, .int .u64 y3]] w fun e w' => e = .returned (.bool (wMeet (⟨⟨x0, x1⟩, ⟨x2, x3⟩⟩ : W2) (⟨⟨y0, y1⟩, ⟨y2, y3⟩⟩ : W2))) ∧ Below w.heap.size w w' := by
  go_enter Tryz.func149, Tryz.ntmps149
  go_wp2_with (first | (go_at_call 103; refine (c_differ _ _ _ _ _ _ _).mono ?_; rintro e w' ⟨rfl, hb⟩; obtain ⟨p, rfl⟩ := below_grew hb; clear hb) | (go_at_call 123; refine (c_And _ _ _ _ _).mono ?_; rintro e w' ⟨rfl, hb⟩; obtain ⟨p, rfl⟩ := below_grew hb; clear hb) | (refine wp_region_mix (id := 1) 12 [(0, true), (1, true), (2, true), (3, true), (4, true), (5, true), (6, true), (7, true), (8, true), (9, true), (10, true), (11, true)] (by kernel_rfl) (by kernel_rfl) ?_) | (refine mix_quiet rfl (fun K hK => ?_); go_simp) | (apply Exists.intro; refine ⟨fun (_ : Ext) => ?_, ?_⟩; · (first | (go_at_call 103; exact calls_later (c_differ _ _ _ _ _ _ _)) | (go_at_call 123; exact calls_later (c_And _ _ _ _ _)))) | (refine mix_end (fun p => ?_); simp only [List.drop_succ_cons, List.drop_zero]))
  all_goals
    refine bodyPost_ret (v := .bool (wMeet (⟨⟨x0, x1⟩, ⟨x2, x3⟩⟩ : W2) (⟨⟨y0, y1⟩, ⟨y2, y3⟩⟩ : W2))) ?_ rfl ⟨rfl, ?_⟩
    · simp [results, Tryz.f149, go_sem] <;> (first | rfl | (simp [wMeet]; done) | (simp [wMeet] <;> omega) | (simp_all [wMeet]; done) | (simp only [wMeet]; (repeat' split) <;> first | rfl | (simp; done) | (exfalso; omega) | (simp; omega)) | (simp_all [wMeet] <;> omega) | (intros; omega))
    · repeat' (first | with_reducible exact Below.refl _ _ | with_reducible assumption | with_reducible apply below_grews | with_reducible apply Below.drew | with_reducible apply Below.alloc | with_reducible apply Below.setCell | (simp [size_grew, -Nat.not_le, -Nat.not_lt] <;> omega))
set_option maxRecDepth 100000 in
set_option maxHeartbeats 2000000 in
theorem c_Above (x0 x1 x2 x3 x4 x5 : Int) (y0 y1 y2 y3 y4 y5 : Int)  (w : World) :
    Calls Tryz.prog 141 #[.agg #[.int .u64 x0, .int .u64 x1, .int .u64 x2, .int .u64 x3, .int .i64 x4, .int .i64 x5], .agg #[.int .u64 y0, .int .u64 y1, .int .u64 y2, .int .u64 y3, .int .i64 y4, .int .i64 y5]] w fun e w' => e = .returned (.bool (eAbove (⟨⟨⟨x0, x1⟩, ⟨x2, x3⟩⟩, x4, x5⟩ : Ent) (⟨⟨⟨y0, y1⟩, ⟨y2, y3⟩⟩, y4, y5⟩ : Ent))) ∧ Below w.heap.size w w' := by
  go_enter Tryz.func141, Tryz.ntmps141
  go_wp2_with (first | (go_at_call 149; refine (c_wMeet _ _ _ _ _ _ _ _ _).mono ?_; rintro e w' ⟨rfl, hb⟩; obtain ⟨p, rfl⟩ := below_grew hb; clear hb))
  all_goals
    refine bodyPost_ret (v := .bool (eAbove (⟨⟨⟨x0, x1⟩, ⟨x2, x3⟩⟩, x4, x5⟩ : Ent) (⟨⟨⟨y0, y1⟩, ⟨y2, y3⟩⟩, y4, y5⟩ : Ent))) ?_ rfl ⟨rfl, ?_⟩
    · simp [results, Tryz.f141, go_sem] <;> (first | rfl | (simp [eAbove]; done) | (simp [eAbove] <;> omega) | (simp_all [eAbove]; done) | (simp only [eAbove]; (repeat' split) <;> first | rfl | (simp; done) | (exfalso; omega) | (simp; omega)) | (simp_all [eAbove] <;> omega) | (intros; omega))
    · repeat' (first | with_reducible exact Below.refl _ _ | with_reducible assumption | with_reducible apply below_grews | with_reducible apply Below.drew | with_reducible apply Below.alloc | with_reducible apply Below.setCell | (simp [size_grew, -Nat.not_le, -Nat.not_lt] <;> omega))
set_option maxRecDepth 100000 in
set_option maxHeartbeats 2000000 in
theorem c_Alike (x0 x1 x2 x3 x4 x5 : Int) (y0 y1 y2 y3 y4 y5 : Int)  (w : World) :
    Calls Tryz.prog 65 #[.agg #[.int .u64 x0, .int .u64 x1, .int .u64 x2, .int .u64 x3, .int .i64 x4, .int .i64 x5], .agg #[.int .u64 y0, .int .u64 y1, .int .u64 y2, .int .u64 y3, .int .i64 y4, .int .i64 y5]] w fun e w' => e = .returned (.bool (eAlike (⟨⟨⟨x0, x1⟩, ⟨x2, x3⟩⟩, x4, x5⟩ : Ent) (⟨⟨⟨y0, y1⟩, ⟨y2, y3⟩⟩, y4, y5⟩ : Ent))) ∧ Below w.heap.size w w' := by
  go_enter Tryz.func65, Tryz.ntmps65
  go_wp2
  all_goals
    refine bodyPost_ret (v := .bool (eAlike (⟨⟨⟨x0, x1⟩, ⟨x2, x3⟩⟩, x4, x5⟩ : Ent) (⟨⟨⟨y0, y1⟩, ⟨y2, y3⟩⟩, y4, y5⟩ : Ent))) ?_ rfl ⟨rfl, ?_⟩
    · simp [results, Tryz.f65, go_sem] <;> (first | rfl | (simp [eAlike]; done) | (simp [eAlike] <;> omega) | (simp_all [eAlike]; done) | (simp only [eAlike]; (repeat' split) <;> first | rfl | (simp; done) | (exfalso; omega) | (simp; omega)) | (simp_all [eAlike] <;> omega) | (intros; omega))
    · repeat' (first | with_reducible exact Below.refl _ _ | with_reducible assumption | with_reducible apply below_grews | with_reducible apply Below.drew | with_reducible apply Below.alloc | with_reducible apply Below.setCell | (simp [size_grew, -Nat.not_le, -Nat.not_lt] <;> omega))
end Go.Proofs.YtjmnnkhdadoehaaGreat

/- What single calls do: addresses, prefixes, entries. -/
namespace Go.Proofs.YtjmnnkhdadoehaaGreat
open Go.RowKit
set_option linter.unusedSimpArgs false
set_option linter.unusedVariables false
attribute [local go_sem high] eql_25 neq_25 eql_44 neq_62 eql_48 eql_50
attribute [local go_sem] eqg_25 eqg_62 eqg_48 eqg_50 cell_grew frozen_grew size_grew grew_grew lt_addk Instr.field asAgg lt_gi_k
set_option maxRecDepth 100000 in
set_option maxHeartbeats 2000000 in
theorem c_isNaN (a : Int)  (w : World) :
    Calls Tryz.prog 137 #[.int .i64 a] w fun e w' => e = .returned (.bool false) ∧ Below w.heap.size w w' := by
  go_enter Tryz.func137, Tryz.ntmps137
  go_wp2
  all_goals
    refine bodyPost_ret (v := .bool false) ?_ rfl ⟨rfl, ?_⟩
    · simp [results, Tryz.f137, go_sem] <;> (first | rfl | (simp; done) | (simp_all; done) | (intros; omega))
    · repeat' (first | with_reducible exact Below.refl _ _ | with_reducible assumption | with_reducible apply below_grews | with_reducible apply Below.drew | with_reducible apply Below.alloc | with_reducible apply Below.setCell | (simp [size_grew, -Nat.not_le, -Nat.not_lt] <;> omega))
set_option maxRecDepth 100000 in
set_option maxHeartbeats 2000000 in
theorem c_cmpInt (a : Int) (b : Int)  (w : World) :
    Calls Tryz.prog 101 #[.int .i64 a, .int .i64 b] w fun e w' => e = .returned (.int .i64 (cmpInt a b)) ∧ Below w.heap.size w w' := by
  go_enter Tryz.func101, Tryz.ntmps101
  go_wp2_with (first | (go_at_call 137; refine (c_isNaN _ _).mono ?_; rintro e w' ⟨rfl, hb⟩; obtain ⟨p, rfl⟩ := below_grew hb; clear hb))
  all_goals
    refine bodyPost_ret (v := .int .i64 (cmpInt a b)) ?_ rfl ⟨rfl, ?_⟩
    · simp [results, Tryz.f101, go_sem] <;> (first | rfl | (simp [cmpInt]; done) | (simp [cmpInt] <;> omega) | (simp_all [cmpInt]; done) | (simp only [cmpInt]; (repeat' split) <;> first | rfl | (simp; done) | (exfalso; omega) | (simp; omega)) | (simp_all [cmpInt] <;> omega) | (intros; omega))
    · repeat' (first | with_reducible exact Below.refl _ _ | with_reducible assumption | with_reducible apply below_grews | with_reducible apply Below.drew | with_reducible apply Below.alloc | with_reducible apply Below.setCell | (simp [size_grew, -Nat.not_le, -Nat.not_lt] <;> omega))
set_option maxRecDepth 100000 in
set_option maxHeartbeats 2000000 in
theorem c_addrCompare (a0 a1 : Int) (b0 b1 : Int)  (w : World) :
    Calls Tryz.prog 102 #[.agg #[.int .u64 a0, .int .u64 a1], .agg #[.int .u64 b0, .int .u64 b1]] w fun e w' => e = .returned (.int .i64 (aCompare (⟨a0, a1⟩ : A2) (⟨b0, b1⟩ : A2))) ∧ Below w.heap.size w w' := by
  go_enter Tryz.func102, Tryz.ntmps102
  go_wp2_with (first | (refine wp_loop_rounds 3 ?_; rw [rounds_succ]) | (rw [rounds_succ]) | (refine wp_region_mix (id := 4) 7 [(0, true), (1, true), (2, true), (3, true), (4, true), (5, true), (6, true)] (by kernel_rfl) (by kernel_rfl) ?_) | (refine wp_region_mix (id := 6) 7 [(0, true), (1, true), (2, true), (3, true), (4, true), (5, true), (6, true)] (by kernel_rfl) (by kernel_rfl) ?_) | (refine mix_quiet rfl (fun K hK => ?_); go_simp) | (refine mix_end (fun p => ?_); simp only [List.drop_succ_cons, List.drop_zero]))
  all_goals
    refine bodyPost_ret (v := .int .i64 (aCompare (⟨a0, a1⟩ : A2) (⟨b0, b1⟩ : A2))) ?_ rfl ⟨rfl, ?_⟩
    · simp [results, Tryz.f102, go_sem] <;> (first | rfl | (simp [aCompare]; done) | (simp [aCompare] <;> omega) | (simp_all [aCompare]; done) | (simp only [aCompare]; (repeat' split) <;> first | rfl | (simp; done) | (exfalso; omega) | (simp; omega)) | (simp_all [aCompare] <;> omega) | (intros; omega))
    · repeat' (first | with_reducible exact Below.refl _ _ | with_reducible assumption | with_reducible apply below_grews | with_reducible apply Below.drew | with_reducible apply Below.alloc | with_reducible apply Below.setCell | (simp [size_grew, -Nat.not_le, -Nat.not_lt] <;> omega))
set_option maxRecDepth 100000 in
set_option maxHeartbeats 2000000 in
theorem c_Mask (n : Int)  (w : World) :
    Calls Tryz.prog 94 #[.int .i64 n] w fun e w' => e = .returned (.agg #[.int .u64 (aMask n).x, .int .u64 (aMask n).y]) ∧ Below w.heap.size w w' := by
  go_enter Tryz.func94, Tryz.ntmps94
  go_wp2_with (first | (refine wp_loop_rounds 3 ?_; rw [rounds_succ]) | (rw [rounds_succ]))
  all_goals
    refine bodyPost_ret (v := .agg #[.int .u64 (aMask n).x, .int .u64 (aMask n).y]) ?_ rfl ⟨rfl, ?_⟩
    · simp [results, Tryz.f94, go_sem] <;> ((simp only [maskW_0, maskW_64, maskW_n]; constructor <;> unfold aMask <;> (repeat' split) <;> first | rfl | (exfalso; omega) | (congr 1; omega)))
    · repeat' (first | with_reducible exact Below.refl _ _ | with_reducible assumption | with_reducible apply below_grews | with_reducible apply Below.drew | with_reducible apply Below.alloc | with_reducible apply Below.setCell | (simp [size_grew, -Nat.not_le, -Nat.not_lt] <;> omega))
set_option maxRecDepth 100000 in
set_option maxHeartbeats 2000000 in
theorem c_Cut (a0 a1 : Int) (n : Int)  (w : World) :
    Calls Tryz.prog 95 #[.agg #[.int .u64 a0, .int .u64 a1], .int .i64 n] w fun e w' => e = .returned (.agg #[.int .u64 (aCut (⟨a0, a1⟩ : A2) n).x, .int .u64 (aCut (⟨a0, a1⟩ : A2) n).y]) ∧ Below w.heap.size w w' := by
  go_enter Tryz.func95, Tryz.ntmps95
  go_wp2_with (first | (go_at_call 94; refine (c_Mask _ _).mono ?_; rintro e w' ⟨rfl, hb⟩; obtain ⟨p, rfl⟩ := below_grew hb; clear hb) | (go_at_call 123; refine (c_And _ _ _ _ _).mono ?_; rintro e w' ⟨rfl, hb⟩; obtain ⟨p, rfl⟩ := below_grew hb; clear hb) | (refine wp_region_mix (id := 1) 4 [(0, true), (1, true), (2, true), (3, true)] (by kernel_rfl) (by kernel_rfl) ?_) | (refine mix_quiet rfl (fun K hK => ?_); go_simp) | (apply Exists.intro; refine ⟨fun (_ : Ext) => ?_, ?_⟩; · (first | (go_at_call 94; exact calls_later (c_Mask _ _)) | (go_at_call 123; exact calls_later (c_And _ _ _ _ _)))) | (refine mix_end (fun p => ?_); simp only [List.drop_succ_cons, List.drop_zero]))
  all_goals
    refine bodyPost_ret (v := .agg #[.int .u64 (aCut (⟨a0, a1⟩ : A2) n).x, .int .u64 (aCut (⟨a0, a1⟩ : A2) n).y]) ?_ rfl ⟨rfl, ?_⟩
    · simp [results, Tryz.f95, go_sem] <;> (first | rfl | (simp [aCut]; done) | (simp [aCut] <;> omega) | (simp_all [aCut]; done) | (simp only [aCut]; (repeat' split) <;> first | rfl | (simp; done) | (exfalso; omega) | (simp; omega)) | (simp_all [aCut] <;> omega) | (intros; omega))
    · repeat' (first | with_reducible exact Below.refl _ _ | with_reducible assumption | with_reducible apply below_grews | with_reducible apply Below.drew | with_reducible apply Below.alloc | with_reducible apply Below.setCell | (simp [size_grew, -Nat.not_le, -Nat.not_lt] <;> omega))
set_option maxRecDepth 100000 in
set_option maxHeartbeats 2000000 in
theorem c_pMake (a0 a1 : Int) (n : Int)  (w : World) :
    Calls Tryz.prog 60 #[.agg #[.int .u64 a0, .int .u64 a1], .int .i64 n] w fun e w' => e = .returned (.agg #[.int .u64 (pMake (⟨a0, a1⟩ : A2) n).a.x, .int .u64 (pMake (⟨a0, a1⟩ : A2) n).a.y, .int .i64 (pMake (⟨a0, a1⟩ : A2) n).len]) ∧ Below w.heap.size w w' := by
  go_enter Tryz.func60, Tryz.ntmps60
  go_wp2_with (first | (go_at_call 95; refine (c_Cut _ _ _ _).mono ?_; rintro e w' ⟨rfl, hb⟩; obtain ⟨p, rfl⟩ := below_grew hb; clear hb))
  all_goals
    refine bodyPost_ret (v := .agg #[.int .u64 (pMake (⟨a0, a1⟩ : A2) n).a.x, .int .u64 (pMake (⟨a0, a1⟩ : A2) n).a.y, .int .i64 (pMake (⟨a0, a1⟩ : A2) n).len]) ?_ rfl ⟨rfl, ?_⟩
    · simp [results, Tryz.f60, go_sem] <;> (first | rfl | (simp [pMake, clamp]; done) | (simp [pMake, clamp] <;> omega) | (simp_all [pMake, clamp]; done) | (simp only [pMake, clamp]; (repeat' split) <;> first | rfl | (simp; done) | (exfalso; omega) | (simp; omega)) | (simp_all [pMake, clamp] <;> omega) | (intros; omega))
    · repeat' (first | with_reducible exact Below.refl _ _ | with_reducible assumption | with_reducible apply below_grews | with_reducible apply Below.drew | with_reducible apply Below.alloc | with_reducible apply Below.setCell | (simp [size_grew, -Nat.not_le, -Nat.not_lt] <;> omega))
set_option maxRecDepth 100000 in
set_option maxHeartbeats 2000000 in
theorem c_wOf (p0 p1 p2 : Int)  (w : World) :
    Calls Tryz.prog 59 #[.agg #[.int .u64 p0, .int .u64 p1, .int .i64 p2]] w fun e w' => e = .returned (.agg #[.int .u64 (wOf (⟨⟨p0, p1⟩, p2⟩ : Pfx)).v.x, .int .u64 (wOf (⟨⟨p0, p1⟩, p2⟩ : Pfx)).v.y, .int .u64 (wOf (⟨⟨p0, p1⟩, p2⟩ : Pfx)).m.x, .int .u64 (wOf (⟨⟨p0, p1⟩, p2⟩ : Pfx)).m.y]) ∧ Below w.heap.size w w' := by
  go_enter Tryz.func59, Tryz.ntmps59
  go_wp2_with (first | (go_at_call 60; refine (c_pMake _ _ _ _).mono ?_; rintro e w' ⟨rfl, hb⟩; obtain ⟨p, rfl⟩ := below_grew hb; clear hb) | (go_at_call 94; refine (c_Mask _ _).mono ?_; rintro e w' ⟨rfl, hb⟩; obtain ⟨p, rfl⟩ := below_grew hb; clear hb) | (refine wp_region_mix (id := 2) 6 [(0, true), (1, true), (2, true), (3, true), (4, true), (5, true)] (by kernel_rfl) (by kernel_rfl) ?_) | (refine mix_quiet rfl (fun K hK => ?_); go_simp) | (apply Exists.intro; refine ⟨fun (_ : Ext) => ?_, ?_⟩; · (first | (go_at_call 60; exact calls_later (c_pMake _ _ _ _)) | (go_at_call 94; exact calls_later (c_Mask _ _)))) | (refine mix_end (fun p => ?_); simp only [List.drop_succ_cons, List.drop_zero]))
  all_goals
    refine bodyPost_ret (v := .agg #[.int .u64 (wOf (⟨⟨p0, p1⟩, p2⟩ : Pfx)).v.x, .int .u64 (wOf (⟨⟨p0, p1⟩, p2⟩ : Pfx)).v.y, .int .u64 (wOf (⟨⟨p0, p1⟩, p2⟩ : Pfx)).m.x, .int .u64 (wOf (⟨⟨p0, p1⟩, p2⟩ : Pfx)).m.y]) ?_ rfl ⟨rfl, ?_⟩
    · simp [results, Tryz.f59, go_sem] <;> (first | rfl | (simp [wOf]; done) | (simp [wOf] <;> omega) | (simp_all [wOf]; done) | (simp only [wOf]; (repeat' split) <;> first | rfl | (simp; done) | (exfalso; omega) | (simp; omega)) | (simp_all [wOf] <;> omega) | (intros; omega))
    · repeat' (first | with_reducible exact Below.refl _ _ | with_reducible assumption | with_reducible apply below_grews | with_reducible apply Below.drew | with_reducible apply Below.alloc | with_reducible apply Below.setCell | (simp [size_grew, -Nat.not_le, -Nat.not_lt] <;> omega))
set_option maxRecDepth 100000 in
set_option maxHeartbeats 2000000 in
theorem c_eOf (p0 p1 p2 : Int) (action : Int)  (w : World) :
    Calls Tryz.prog 30 #[.agg #[.int .u64 p0, .int .u64 p1, .int .i64 p2], .int .i64 action] w fun e w' => e = .returned (.agg #[.int .u64 (eOf (⟨⟨p0, p1⟩, p2⟩ : Pfx) action).w.v.x, .int .u64 (eOf (⟨⟨p0, p1⟩, p2⟩ : Pfx) action).w.v.y, .int .u64 (eOf (⟨⟨p0, p1⟩, p2⟩ : Pfx) action).w.m.x, .int .u64 (eOf (⟨⟨p0, p1⟩, p2⟩ : Pfx) action).w.m.y, .int .i64 (eOf (⟨⟨p0, p1⟩, p2⟩ : Pfx) action).len, .int .i64 (eOf (⟨⟨p0, p1⟩, p2⟩ : Pfx) action).act]) ∧ Below w.heap.size w w' := by
  go_enter Tryz.func30, Tryz.ntmps30
  go_wp2_with (first | (go_at_call 59; refine (c_wOf _ _ _ _).mono ?_; rintro e w' ⟨rfl, hb⟩; obtain ⟨p, rfl⟩ := below_grew hb; clear hb) | (go_at_call 60; refine (c_pMake _ _ _ _).mono ?_; rintro e w' ⟨rfl, hb⟩; obtain ⟨p, rfl⟩ := below_grew hb; clear hb) | (refine wp_region_mix (id := 1) 10 [(0, true), (1, true), (2, true), (3, true), (4, true), (5, true), (6, true), (7, true), (8, true), (9, true)] (by kernel_rfl) (by kernel_rfl) ?_) | (refine mix_quiet rfl (fun K hK => ?_); go_simp) | (apply Exists.intro; refine ⟨fun (_ : Ext) => ?_, ?_⟩; · (first | (go_at_call 59; exact calls_later (c_wOf _ _ _ _)) | (go_at_call 60; exact calls_later (c_pMake _ _ _ _)))) | (refine mix_end (fun p => ?_); simp only [List.drop_succ_cons, List.drop_zero]))
  all_goals
    refine bodyPost_ret (v := .agg #[.int .u64 (eOf (⟨⟨p0, p1⟩, p2⟩ : Pfx) action).w.v.x, .int .u64 (eOf (⟨⟨p0, p1⟩, p2⟩ : Pfx) action).w.v.y, .int .u64 (eOf (⟨⟨p0, p1⟩, p2⟩ : Pfx) action).w.m.x, .int .u64 (eOf (⟨⟨p0, p1⟩, p2⟩ : Pfx) action).w.m.y, .int .i64 (eOf (⟨⟨p0, p1⟩, p2⟩ : Pfx) action).len, .int .i64 (eOf (⟨⟨p0, p1⟩, p2⟩ : Pfx) action).act]) ?_ rfl ⟨rfl, ?_⟩
    · simp [results, Tryz.f30, go_sem] <;> (first | rfl | (simp [eOf]; done) | (simp [eOf] <;> omega) | (simp_all [eOf]; done) | (simp only [eOf]; (repeat' split) <;> first | rfl | (simp; done) | (exfalso; omega) | (simp; omega)) | (simp_all [eOf] <;> omega) | (intros; omega))
    · repeat' (first | with_reducible exact Below.refl _ _ | with_reducible assumption | with_reducible apply below_grews | with_reducible apply Below.drew | with_reducible apply Below.alloc | with_reducible apply Below.setCell | (simp [size_grew, -Nat.not_le, -Nat.not_lt] <;> omega))
set_option maxRecDepth 100000 in
set_option maxHeartbeats 2000000 in
theorem c_eRight (x0 x1 x2 x3 x4 x5 : Int)  (w : World) :
    Calls Tryz.prog 61 #[.agg #[.int .u64 x0, .int .u64 x1, .int .u64 x2, .int .u64 x3, .int .i64 x4, .int .i64 x5]] w fun e w' => e = .returned (.bool (eRight (⟨⟨⟨x0, x1⟩, ⟨x2, x3⟩⟩, x4, x5⟩ : Ent))) ∧ Below w.heap.size w w' := by
  go_enter Tryz.func61, Tryz.ntmps61
  go_wp2_with (first | (go_at_call 96; refine (c_wRight _ _ _ _ _).mono ?_; rintro e w' ⟨rfl, hb⟩; obtain ⟨p, rfl⟩ := below_grew hb; clear hb))
  all_goals
    refine bodyPost_ret (v := .bool (eRight (⟨⟨⟨x0, x1⟩, ⟨x2, x3⟩⟩, x4, x5⟩ : Ent))) ?_ rfl ⟨rfl, ?_⟩
    · simp [results, Tryz.f61, go_sem] <;> (first | rfl | (simp [eRight]; done) | (simp [eRight] <;> omega) | (simp_all [eRight]; done) | (simp only [eRight]; (repeat' split) <;> first | rfl | (simp; done) | (exfalso; omega) | (simp; omega)) | (simp_all [eRight] <;> omega) | (intros; omega))
    · repeat' (first | with_reducible exact Below.refl _ _ | with_reducible assumption | with_reducible apply below_grews | with_reducible apply Below.drew | with_reducible apply Below.alloc | with_reducible apply Below.setCell | (simp [size_grew, -Nat.not_le, -Nat.not_lt] <;> omega))
set_option maxRecDepth 100000 in
set_option maxHeartbeats 2000000 in
theorem c_law4Of (x0 x1 x2 x3 : Int)  (w : World) :
    Calls Tryz.prog 85 #[.agg #[.int .u64 x0, .int .u64 x1, .int .u64 x2, .int .u64 x3]] w fun e w' => e = .returned (.agg #[.int .u64 (⟨⟨x0, x1⟩, ⟨x2, x3⟩⟩ : W2).v.x, .int .u64 (⟨⟨x0, x1⟩, ⟨x2, x3⟩⟩ : W2).v.y, .int .u64 (⟨⟨x0, x1⟩, ⟨x2, x3⟩⟩ : W2).m.x, .int .u64 (⟨⟨x0, x1⟩, ⟨x2, x3⟩⟩ : W2).m.y]) ∧ Below w.heap.size w w' := by
  go_enter Tryz.func85, Tryz.ntmps85
  go_wp2
  all_goals
    refine bodyPost_ret (v := .agg #[.int .u64 (⟨⟨x0, x1⟩, ⟨x2, x3⟩⟩ : W2).v.x, .int .u64 (⟨⟨x0, x1⟩, ⟨x2, x3⟩⟩ : W2).v.y, .int .u64 (⟨⟨x0, x1⟩, ⟨x2, x3⟩⟩ : W2).m.x, .int .u64 (⟨⟨x0, x1⟩, ⟨x2, x3⟩⟩ : W2).m.y]) ?_ rfl ⟨rfl, ?_⟩
    · simp [results, Tryz.f85, go_sem] <;> (first | rfl | (simp; done) | (simp_all; done) | (intros; omega))
    · repeat' (first | with_reducible exact Below.refl _ _ | with_reducible assumption | with_reducible apply below_grews | with_reducible apply Below.drew | with_reducible apply Below.alloc | with_reducible apply Below.setCell | (simp [size_grew, -Nat.not_le, -Nat.not_lt] <;> omega))
set_option maxRecDepth 100000 in
set_option maxHeartbeats 2000000 in
theorem c_law5One (x0 x1 x2 x3 x4 x5 : Int)  (w : World) :
    Calls Tryz.prog 48 #[.agg #[.int .u64 x0, .int .u64 x1, .int .u64 x2, .int .u64 x3, .int .i64 x4, .int .i64 x5]] w fun e w' => e = .returned (.agg #[.int .u64 (⟨⟨⟨x0, x1⟩, ⟨x2, x3⟩⟩, x4, x5⟩ : Ent).w.v.x, .int .u64 (⟨⟨⟨x0, x1⟩, ⟨x2, x3⟩⟩, x4, x5⟩ : Ent).w.v.y, .int .u64 (⟨⟨⟨x0, x1⟩, ⟨x2, x3⟩⟩, x4, x5⟩ : Ent).w.m.x, .int .u64 (⟨⟨⟨x0, x1⟩, ⟨x2, x3⟩⟩, x4, x5⟩ : Ent).w.m.y, .int .i64 (⟨⟨⟨x0, x1⟩, ⟨x2, x3⟩⟩, x4, x5⟩ : Ent).len, .int .i64 (⟨⟨⟨x0, x1⟩, ⟨x2, x3⟩⟩, x4, x5⟩ : Ent).act]) ∧ Below w.heap.size w w' := by
  go_enter Tryz.func48, Tryz.ntmps48
  go_wp2_with (first | (go_at_call 85; refine (c_law4Of _ _ _ _ _).mono ?_; rintro e w' ⟨rfl, hb⟩; obtain ⟨p, rfl⟩ := below_grew hb; clear hb) | (refine wp_region_mix (id := 1) 8 [(0, true), (1, true), (2, true), (3, true), (4, true), (5, true), (6, true), (7, true)] (by kernel_rfl) (by kernel_rfl) ?_) | (refine mix_quiet rfl (fun K hK => ?_); go_simp) | (apply Exists.intro; refine ⟨fun (_ : Ext) => ?_, ?_⟩; · (first | (go_at_call 85; exact calls_later (c_law4Of _ _ _ _ _)))) | (refine mix_end (fun p => ?_); simp only [List.drop_succ_cons, List.drop_zero]))
  all_goals
    refine bodyPost_ret (v := .agg #[.int .u64 (⟨⟨⟨x0, x1⟩, ⟨x2, x3⟩⟩, x4, x5⟩ : Ent).w.v.x, .int .u64 (⟨⟨⟨x0, x1⟩, ⟨x2, x3⟩⟩, x4, x5⟩ : Ent).w.v.y, .int .u64 (⟨⟨⟨x0, x1⟩, ⟨x2, x3⟩⟩, x4, x5⟩ : Ent).w.m.x, .int .u64 (⟨⟨⟨x0, x1⟩, ⟨x2, x3⟩⟩, x4, x5⟩ : Ent).w.m.y, .int .i64 (⟨⟨⟨x0, x1⟩, ⟨x2, x3⟩⟩, x4, x5⟩ : Ent).len, .int .i64 (⟨⟨⟨x0, x1⟩, ⟨x2, x3⟩⟩, x4, x5⟩ : Ent).act]) ?_ rfl ⟨rfl, ?_⟩
    · simp [results, Tryz.f48, go_sem] <;> (first | rfl | (simp; done) | (simp_all; done) | (intros; omega))
    · repeat' (first | with_reducible exact Below.refl _ _ | with_reducible assumption | with_reducible apply below_grews | with_reducible apply Below.drew | with_reducible apply Below.alloc | with_reducible apply Below.setCell | (simp [size_grew, -Nat.not_le, -Nat.not_lt] <;> omega))
end Go.Proofs.YtjmnnkhdadoehaaGreat
