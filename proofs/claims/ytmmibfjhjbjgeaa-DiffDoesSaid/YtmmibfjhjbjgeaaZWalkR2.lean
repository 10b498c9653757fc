/- What single calls do: the reference's words. -/
import Derived.Test.YtmmibfjhjbjgeaaZWalkR
import Derived.Test.YtmmibfjhjbjgeaaZRead
import Derived.Test.YtmmibfjhjbjgeaaZSpecC
import Derived.Lib.Hide
namespace Go.Proofs.Ytmmibfjhjbjgeaa
set_option linter.unusedSimpArgs false
set_option linter.unusedVariables false
open Go.RowKit
attribute [local go_sem high] eql_41 neq_41 eql_33 neq_33 eql_43 neq_43 eql_35 neq_35 eql_45 neq_45 eql_37 neq_37 eql_63 neq_63 eql_103 neq_103 eql_86 neq_86 eql_105 neq_105 eql_47 neq_47 eql_39 neq_39
attribute [local go_sem ↓ high] yielded_undef
attribute [local go_sem] eqg_41 eqg_33 eqg_43 eqg_35 eqg_45 eqg_37 eqg_63 eqg_103 eqg_86 eqg_105 eqg_47 eqg_39 cell_grew frozen_grew size_grew grew_grew drewN_grew lt_addk size_setW Instr.field asAgg lt_gi_k lt_gi_kh lt_gi_k_k lt_gi_k_kh lt_gi_k_k_k lt_gi_k_k_kh lt_gi_i_k lt_gi_i_kh lt_gi_i_k_k lt_gi_i_k_kh lt_gi_i_k_k_k lt_gi_i_k_k_kh lt_gi_i_i_k lt_gi_i_i_kh lt_gi_i_i_k_k lt_gi_i_i_k_kh lt_gi_i_i_k_k_k lt_gi_i_i_k_k_kh lt_gi_i_i_i_k lt_gi_i_i_i_kh lt_gi_i_i_i_k_k lt_gi_i_i_i_k_kh lt_gi_i_i_i_k_k_k lt_gi_i_i_i_k_k_kh lt_gi_i_i_i_i_k lt_gi_i_i_i_i_kh lt_gi_i_i_i_i_k_k lt_gi_i_i_i_i_k_kh lt_gi_i_i_i_i_k_k_k lt_gi_i_i_i_i_k_k_kh lt_gi_i_i_i_i_i_k lt_gi_i_i_i_i_i_kh lt_gi_i_i_i_i_i_k_k lt_gi_i_i_i_i_i_k_kh lt_gi_i_i_i_i_i_k_k_k lt_gi_i_i_i_i_i_k_k_kh lt_gi_i_i_i_i_i_i_k lt_gi_i_i_i_i_i_i_kh lt_gi_i_i_i_i_i_i_k_k lt_gi_i_i_i_i_i_i_k_kh lt_gi_i_i_i_i_i_i_k_k_k lt_gi_i_i_i_i_i_i_k_k_kh lt_gi_i_i_i_i_i_i_i_k lt_gi_i_i_i_i_i_i_i_kh lt_gi_i_i_i_i_i_i_i_k_k lt_gi_i_i_i_i_i_i_i_k_kh lt_gi_i_i_i_i_i_i_i_k_k_k lt_gi_i_i_i_i_i_i_i_k_k_kh lt_gi_k_i lt_gi_k_ih lt_gi_k_i_k lt_gi_k_i_kh lt_gi_k_k_i lt_gi_k_k_ih lt_gi_k_k_i_k lt_gi_k_k_i_kh lt_gi_k_i_i lt_gi_k_i_ih lt_gi_k_i_i_k lt_gi_k_i_i_kh lt_gi_k_k_i_i lt_gi_k_k_i_ih lt_gi_k_k_i_i_k lt_gi_k_k_i_i_kh lt_gi_k_i_i_i lt_gi_k_i_i_ih lt_gi_k_i_i_i_k lt_gi_k_i_i_i_kh lt_gi_k_k_i_i_i lt_gi_k_k_i_i_ih lt_gi_k_k_i_i_i_k lt_gi_k_k_i_i_i_kh lt_gi_i_k_i lt_gi_i_k_ih lt_gi_i_k_i_k lt_gi_i_k_i_kh lt_gi_i_k_k_i lt_gi_i_k_k_ih lt_gi_i_k_k_i_k lt_gi_i_k_k_i_kh lt_gi_i_k_i_i lt_gi_i_k_i_ih lt_gi_i_k_i_i_k lt_gi_i_k_i_i_kh lt_gi_i_k_k_i_i lt_gi_i_k_k_i_ih lt_gi_i_k_k_i_i_k lt_gi_i_k_k_i_i_kh lt_gi_i_k_i_i_i lt_gi_i_k_i_i_ih lt_gi_i_k_i_i_i_k lt_gi_i_k_i_i_i_kh lt_gi_i_k_k_i_i_i lt_gi_i_k_k_i_i_ih lt_gi_i_k_k_i_i_i_k lt_gi_i_k_k_i_i_i_kh lt_gi_i_i_k_i lt_gi_i_i_k_ih lt_gi_i_i_k_i_k lt_gi_i_i_k_i_kh lt_gi_i_i_k_k_i lt_gi_i_i_k_k_ih lt_gi_i_i_k_k_i_k lt_gi_i_i_k_k_i_kh lt_gi_i_i_k_i_i lt_gi_i_i_k_i_ih lt_gi_i_i_k_i_i_k lt_gi_i_i_k_i_i_kh lt_gi_i_i_k_k_i_i lt_gi_i_i_k_k_i_ih lt_gi_i_i_k_k_i_i_k lt_gi_i_i_k_k_i_i_kh lt_gi_i_i_k_i_i_i lt_gi_i_i_k_i_i_ih lt_gi_i_i_k_i_i_i_k lt_gi_i_i_k_i_i_i_kh lt_gi_i_i_k_k_i_i_i lt_gi_i_i_k_k_i_i_ih lt_gi_i_i_k_k_i_i_i_k lt_gi_i_i_k_k_i_i_i_kh lt_gi_i_i_i_k_i lt_gi_i_i_i_k_ih lt_gi_i_i_i_k_i_k lt_gi_i_i_i_k_i_kh lt_gi_i_i_i_k_k_i lt_gi_i_i_i_k_k_ih lt_gi_i_i_i_k_k_i_k lt_gi_i_i_i_k_k_i_kh lt_gi_i_i_i_k_i_i lt_gi_i_i_i_k_i_ih lt_gi_i_i_i_k_i_i_k lt_gi_i_i_i_k_i_i_kh lt_gi_i_i_i_k_k_i_i lt_gi_i_i_i_k_k_i_ih lt_gi_i_i_i_k_k_i_i_k lt_gi_i_i_i_k_k_i_i_kh lt_gi_i_i_i_k_i_i_i lt_gi_i_i_i_k_i_i_ih lt_gi_i_i_i_k_i_i_i_k lt_gi_i_i_i_k_i_i_i_kh lt_gi_i_i_i_k_k_i_i_i lt_gi_i_i_i_k_k_i_i_ih lt_gi_i_i_i_k_k_i_i_i_k lt_gi_i_i_i_k_k_i_i_i_kh lt_gi_i_i_i_i_k_i lt_gi_i_i_i_i_k_ih lt_gi_i_i_i_i_k_i_k lt_gi_i_i_i_i_k_i_kh lt_gi_i_i_i_i_k_k_i lt_gi_i_i_i_i_k_k_ih lt_gi_i_i_i_i_k_k_i_k lt_gi_i_i_i_i_k_k_i_kh lt_gi_i_i_i_i_k_i_i lt_gi_i_i_i_i_k_i_ih lt_gi_i_i_i_i_k_i_i_k lt_gi_i_i_i_i_k_i_i_kh lt_gi_i_i_i_i_k_k_i_i lt_gi_i_i_i_i_k_k_i_ih lt_gi_i_i_i_i_k_k_i_i_k lt_gi_i_i_i_i_k_k_i_i_kh lt_gi_i_i_i_i_k_i_i_i lt_gi_i_i_i_i_k_i_i_ih lt_gi_i_i_i_i_k_i_i_i_k lt_gi_i_i_i_i_k_i_i_i_kh lt_gi_i_i_i_i_k_k_i_i_i lt_gi_i_i_i_i_k_k_i_i_ih lt_gi_i_i_i_i_k_k_i_i_i_k lt_gi_i_i_i_i_k_k_i_i_i_kh
set_option maxRecDepth 100000 in
set_option maxHeartbeats 4000000 in
theorem c_rMatch (x0 x1 x2 x3 a0 a1 : Int) (h1 : A2.ok ⟨x0, x1⟩) (h2 : A2.ok ⟨x2, x3⟩) (h3 : A2.ok ⟨a0, a1⟩) (w : World) :
    Calls Try.prog 82 #[.agg #[.int .u64 x0, .int .u64 x1, .int .u64 x2, .int .u64 x3], .agg #[.int .u64 a0, .int .u64 a1]] w fun e w' => e = .returned (.bool (rMatch ⟨⟨x0, x1⟩, ⟨x2, x3⟩⟩ ⟨a0, a1⟩)) ∧ Below w.heap.size w w' := by
  go_enter Try.func82, Try.ntmps82
  go_wp2_with fail
  refine (c_Bits _ _ h1 _).mono ?_
  rintro e w' ⟨b1, rfl, g1, r1, l1⟩
  obtain ⟨p1, rfl⟩ := below_grew l1
  clear l1 g1
  go_wp2_with fail
  refine (c_Bits _ _ h2 _).mono ?_
  rintro e w' ⟨b2, rfl, g2, r2, l2⟩
  obtain ⟨p2, rfl⟩ := below_grew l2
  clear l2 g2
  replace r1 := rowIs_grew r1 p2
  simp only [grew_grew, Array.append_assoc] at r1 r2
  go_wp2_with fail
  refine (c_Bits _ _ h3 _).mono ?_
  rintro e w' ⟨b3, rfl, g3, r3, l3⟩
  obtain ⟨p3, rfl⟩ := below_grew l3
  clear l3 g3
  replace r1 := rowIs_grew r1 p3
  replace r2 := rowIs_grew r2 p3
  simp only [grew_grew, Array.append_assoc] at r1 r2 r3
  go_wp2_with fail
  obtain ⟨W1, hW⟩ : ∃ W1, W1 = grew ((w.alloc (.cells #[.int .u64 x0, .int .u64 x1, .int .u64 x2, .int .u64 x3] 35)).alloc (.cells #[.int .u64 a0, .int .u64 a1] 33)) ⟨p3.d, p1.os ++ (p2.os ++ p3.os)⟩ := ⟨_, rfl⟩
  have HB : Below w.heap.size w W1 := by
    rw [hW]
    repeat' (first | with_reducible exact Below.refl _ _ | with_reducible assumption | with_reducible apply below_grews | with_reducible apply Below.drew | with_reducible apply Below.alloc | with_reducible apply Below.setCell | (simp [size_grew, -Nat.not_le, -Nat.not_lt] <;> omega))
  rw [← hW] at r1 r2 r3 ⊢
  clear hW
  have z1 := r1.lt
  have z2 := r2.lt
  have z3 := r3.lt
  go_loopw [8] (fun v8 wr => ∃ k : Nat, k ≤ 128 ∧ v8 = .int .i64 k ∧ Hid (allTo (rMatchP ⟨⟨x0, x1⟩, ⟨x2, x3⟩⟩ ⟨a0, a1⟩) k = true) ∧ ∃ q : Ext, wr = grew W1 q) (fun i _ => 128 - (intOf i).toNat)
  case atStart => exact ⟨0, by omega, rfl, rfl, ⟨W1.drawn, #[]⟩, by first | (simp [grew]; done) | (simp [grew]; rfl)⟩
  case round =>
    obtain ⟨k, hk, rfl, H, q, rfl⟩ := hrel
    by_cases hlt : k < 128
    · have c1 := r1.cell hlt
      have c2 := r2.cell hlt
      have c3 := r3.cell hlt
      go_wp2_with (first | (refine wp_region_mix (id := 7) 14 [(0, true), (1, true), (2, true), (3, true), (4, true), (5, true), (6, true), (7, true), (8, true), (9, true), (10, true), (11, true), (12, true), (13, true)] (by kernel_rfl) (by kernel_rfl) ?_) | (refine mix_quiet rfl (fun K hK => ?_); go_simp) | (refine mix_end (fun p => ?_); simp only [List.drop_succ_cons, List.drop_zero]))
      all_goals first
        | (go_roundw
           case rel =>
             refine ⟨k + 1, by omega, by go_num, allTo_succ H.out ?_, below_grew (by repeat' (first | with_reducible exact Below.refl _ _ | with_reducible assumption | with_reducible apply below_grews | with_reducible apply Below.drew | with_reducible apply Below.alloc | with_reducible apply Below.setCell | (simp [size_grew, -Nat.not_le, -Nat.not_lt] <;> omega)))⟩
             simp only [rMatchP]
             simp_all
           case measure => first | (simp [intOf]; done) | (simp [intOf]; omega))
        | (refine bodyPost_ret (v := .bool false) ?_ rfl ⟨?_, ?_⟩
           · simp [results, Try.f82, go_sem]
           · rw [show ((rMatch ⟨⟨x0, x1⟩, ⟨x2, x3⟩⟩ ⟨a0, a1⟩)) = false from allTo_false (k := k) (by simp only [rMatchP]; simp_all) 128 hlt]
           · repeat' (first | with_reducible exact Below.refl _ _ | with_reducible assumption | with_reducible apply below_grews | with_reducible apply Below.drew | with_reducible apply Below.alloc | with_reducible apply Below.setCell | (simp [size_grew, -Nat.not_le, -Nat.not_lt] <;> omega)))
    · obtain rfl : k = 128 := by omega
      go_wp2
      refine bodyPost_ret (v := .bool true) ?_ rfl ⟨?_, ?_⟩
      · simp [results, Try.f82, go_sem]
      · rw [show ((rMatch ⟨⟨x0, x1⟩, ⟨x2, x3⟩⟩ ⟨a0, a1⟩)) = true from H.out]
      · repeat' (first | with_reducible exact Below.refl _ _ | with_reducible assumption | with_reducible apply below_grews | with_reducible apply Below.drew | with_reducible apply Below.alloc | with_reducible apply Below.setCell | (simp [size_grew, -Nat.not_le, -Nat.not_lt] <;> omega))
set_option maxRecDepth 100000 in
set_option maxHeartbeats 4000000 in
theorem c_rMeet (x0 x1 x2 x3 y0 y1 y2 y3 : Int) (h1 : A2.ok ⟨x0, x1⟩) (h2 : A2.ok ⟨x2, x3⟩) (h3 : A2.ok ⟨y0, y1⟩) (h4 : A2.ok ⟨y2, y3⟩) (w : World) :
    Calls Try.prog 41 #[.agg #[.int .u64 x0, .int .u64 x1, .int .u64 x2, .int .u64 x3], .agg #[.int .u64 y0, .int .u64 y1, .int .u64 y2, .int .u64 y3]] w fun e w' => e = .returned (.bool (rMeet ⟨⟨x0, x1⟩, ⟨x2, x3⟩⟩ ⟨⟨y0, y1⟩, ⟨y2, y3⟩⟩)) ∧ Below w.heap.size w w' := by
  go_enter Try.func41, Try.ntmps41
  go_wp2_with fail
  refine (c_Bits _ _ h1 _).mono ?_
  rintro e w' ⟨b1, rfl, g1, r1, l1⟩
  obtain ⟨p1, rfl⟩ := below_grew l1
  clear l1 g1
  go_wp2_with fail
  refine (c_Bits _ _ h2 _).mono ?_
  rintro e w' ⟨b2, rfl, g2, r2, l2⟩
  obtain ⟨p2, rfl⟩ := below_grew l2
  clear l2 g2
  replace r1 := rowIs_grew r1 p2
  simp only [grew_grew, Array.append_assoc] at r1 r2
  go_wp2_with fail
  refine (c_Bits _ _ h3 _).mono ?_
  rintro e w' ⟨b3, rfl, g3, r3, l3⟩
  obtain ⟨p3, rfl⟩ := below_grew l3
  clear l3 g3
  replace r1 := rowIs_grew r1 p3
  replace r2 := rowIs_grew r2 p3
  simp only [grew_grew, Array.append_assoc] at r1 r2 r3
  go_wp2_with fail
  refine (c_Bits _ _ h4 _).mono ?_
  rintro e w' ⟨b4, rfl, g4, r4, l4⟩
  obtain ⟨p4, rfl⟩ := below_grew l4
  clear l4 g4
  replace r1 := rowIs_grew r1 p4
  replace r2 := rowIs_grew r2 p4
  replace r3 := rowIs_grew r3 p4
  simp only [grew_grew, Array.append_assoc] at r1 r2 r3 r4
  go_wp2_with fail
  obtain ⟨W1, hW⟩ : ∃ W1, W1 = grew ((w.alloc (.cells #[.int .u64 x0, .int .u64 x1, .int .u64 x2, .int .u64 x3] 35)).alloc (.cells #[.int .u64 y0, .int .u64 y1, .int .u64 y2, .int .u64 y3] 35)) ⟨p4.d, p1.os ++ (p2.os ++ (p3.os ++ p4.os))⟩ := ⟨_, rfl⟩
  have HB : Below w.heap.size w W1 := by
    rw [hW]
    repeat' (first | with_reducible exact Below.refl _ _ | with_reducible assumption | with_reducible apply below_grews | with_reducible apply Below.drew | with_reducible apply Below.alloc | with_reducible apply Below.setCell | (simp [size_grew, -Nat.not_le, -Nat.not_lt] <;> omega))
  rw [← hW] at r1 r2 r3 r4 ⊢
  clear hW
  have z1 := r1.lt
  have z2 := r2.lt
  have z3 := r3.lt
  have z4 := r4.lt
  go_loopw [9] (fun v8 wr => ∃ k : Nat, k ≤ 128 ∧ v8 = .int .i64 k ∧ Hid (allTo (rMeetP ⟨⟨x0, x1⟩, ⟨x2, x3⟩⟩ ⟨⟨y0, y1⟩, ⟨y2, y3⟩⟩) k = true) ∧ ∃ q : Ext, wr = grew W1 q) (fun i _ => 128 - (intOf i).toNat)
  case atStart => exact ⟨0, by omega, rfl, rfl, ⟨W1.drawn, #[]⟩, by first | (simp [grew]; done) | (simp [grew]; rfl)⟩
  case round =>
    obtain ⟨k, hk, rfl, H, q, rfl⟩ := hrel
    by_cases hlt : k < 128
    · have c1 := r1.cell hlt
      have c2 := r2.cell hlt
      have c3 := r3.cell hlt
      have c4 := r4.cell hlt
      go_wp2_with (first | (refine wp_region_mix (id := 8) 20 [(0, true), (1, true), (2, true), (3, true), (4, true), (5, true), (6, true), (7, true), (8, true), (9, true), (10, true), (11, true), (12, true), (13, true), (14, true), (15, true), (16, true), (17, true), (18, true), (19, true)] (by kernel_rfl) (by kernel_rfl) ?_) | (refine mix_quiet rfl (fun K hK => ?_); go_simp) | (refine mix_end (fun p => ?_); simp only [List.drop_succ_cons, List.drop_zero]))
      all_goals first
        | (go_roundw
           case rel =>
             refine ⟨k + 1, by omega, by go_num, allTo_succ H.out ?_, below_grew (by repeat' (first | with_reducible exact Below.refl _ _ | with_reducible assumption | with_reducible apply below_grews | with_reducible apply Below.drew | with_reducible apply Below.alloc | with_reducible apply Below.setCell | (simp [size_grew, -Nat.not_le, -Nat.not_lt] <;> omega)))⟩
             simp only [rMeetP]
             simp_all
           case measure => first | (simp [intOf]; done) | (simp [intOf]; omega))
        | (refine bodyPost_ret (v := .bool false) ?_ rfl ⟨?_, ?_⟩
           · simp [results, Try.f41, go_sem]
           · rw [show ((rMeet ⟨⟨x0, x1⟩, ⟨x2, x3⟩⟩ ⟨⟨y0, y1⟩, ⟨y2, y3⟩⟩)) = false from allTo_false (k := k) (by simp only [rMeetP]; simp_all) 128 hlt]
           · repeat' (first | with_reducible exact Below.refl _ _ | with_reducible assumption | with_reducible apply below_grews | with_reducible apply Below.drew | with_reducible apply Below.alloc | with_reducible apply Below.setCell | (simp [size_grew, -Nat.not_le, -Nat.not_lt] <;> omega)))
    · obtain rfl : k = 128 := by omega
      go_wp2
      refine bodyPost_ret (v := .bool true) ?_ rfl ⟨?_, ?_⟩
      · simp [results, Try.f41, go_sem]
      · rw [show ((rMeet ⟨⟨x0, x1⟩, ⟨x2, x3⟩⟩ ⟨⟨y0, y1⟩, ⟨y2, y3⟩⟩)) = true from H.out]
      · repeat' (first | with_reducible exact Below.refl _ _ | with_reducible assumption | with_reducible apply below_grews | with_reducible apply Below.drew | with_reducible apply Below.alloc | with_reducible apply Below.setCell | (simp [size_grew, -Nat.not_le, -Nat.not_lt] <;> omega))
end Go.Proofs.Ytmmibfjhjbjgeaa

/- What single calls do: the reference's entries. -/
namespace Go.Proofs.Ytmmibfjhjbjgeaa
set_option linter.unusedSimpArgs false
set_option linter.unusedVariables false
open Go.RowKit
attribute [local irreducible] rMatch rMeet
attribute [local go_sem high] eql_41 neq_41 eql_33 neq_33 eql_43 neq_43 eql_35 neq_35 eql_45 neq_45 eql_37 neq_37 eql_63 neq_63 eql_103 neq_103 eql_86 neq_86 eql_105 neq_105 eql_47 neq_47 eql_39 neq_39
attribute [local go_sem ↓ high] yielded_undef
attribute [local go_sem] eqg_41 eqg_33 eqg_43 eqg_35 eqg_45 eqg_37 eqg_63 eqg_103 eqg_86 eqg_105 eqg_47 eqg_39 cell_grew frozen_grew size_grew grew_grew drewN_grew lt_addk size_setW Instr.field asAgg lt_gi_k lt_gi_kh lt_gi_k_k lt_gi_k_kh lt_gi_k_k_k lt_gi_k_k_kh lt_gi_i_k lt_gi_i_kh lt_gi_i_k_k lt_gi_i_k_kh lt_gi_i_k_k_k lt_gi_i_k_k_kh lt_gi_i_i_k lt_gi_i_i_kh lt_gi_i_i_k_k lt_gi_i_i_k_kh lt_gi_i_i_k_k_k lt_gi_i_i_k_k_kh lt_gi_i_i_i_k lt_gi_i_i_i_kh lt_gi_i_i_i_k_k lt_gi_i_i_i_k_kh lt_gi_i_i_i_k_k_k lt_gi_i_i_i_k_k_kh lt_gi_i_i_i_i_k lt_gi_i_i_i_i_kh lt_gi_i_i_i_i_k_k lt_gi_i_i_i_i_k_kh lt_gi_i_i_i_i_k_k_k lt_gi_i_i_i_i_k_k_kh lt_gi_i_i_i_i_i_k lt_gi_i_i_i_i_i_kh lt_gi_i_i_i_i_i_k_k lt_gi_i_i_i_i_i_k_kh lt_gi_i_i_i_i_i_k_k_k lt_gi_i_i_i_i_i_k_k_kh lt_gi_i_i_i_i_i_i_k lt_gi_i_i_i_i_i_i_kh lt_gi_i_i_i_i_i_i_k_k lt_gi_i_i_i_i_i_i_k_kh lt_gi_i_i_i_i_i_i_k_k_k lt_gi_i_i_i_i_i_i_k_k_kh lt_gi_i_i_i_i_i_i_i_k lt_gi_i_i_i_i_i_i_i_kh lt_gi_i_i_i_i_i_i_i_k_k lt_gi_i_i_i_i_i_i_i_k_kh lt_gi_i_i_i_i_i_i_i_k_k_k lt_gi_i_i_i_i_i_i_i_k_k_kh lt_gi_k_i lt_gi_k_ih lt_gi_k_i_k lt_gi_k_i_kh lt_gi_k_k_i lt_gi_k_k_ih lt_gi_k_k_i_k lt_gi_k_k_i_kh lt_gi_k_i_i lt_gi_k_i_ih lt_gi_k_i_i_k lt_gi_k_i_i_kh lt_gi_k_k_i_i lt_gi_k_k_i_ih lt_gi_k_k_i_i_k lt_gi_k_k_i_i_kh lt_gi_k_i_i_i lt_gi_k_i_i_ih lt_gi_k_i_i_i_k lt_gi_k_i_i_i_kh lt_gi_k_k_i_i_i lt_gi_k_k_i_i_ih lt_gi_k_k_i_i_i_k lt_gi_k_k_i_i_i_kh lt_gi_i_k_i lt_gi_i_k_ih lt_gi_i_k_i_k lt_gi_i_k_i_kh lt_gi_i_k_k_i lt_gi_i_k_k_ih lt_gi_i_k_k_i_k lt_gi_i_k_k_i_kh lt_gi_i_k_i_i lt_gi_i_k_i_ih lt_gi_i_k_i_i_k lt_gi_i_k_i_i_kh lt_gi_i_k_k_i_i lt_gi_i_k_k_i_ih lt_gi_i_k_k_i_i_k lt_gi_i_k_k_i_i_kh lt_gi_i_k_i_i_i lt_gi_i_k_i_i_ih lt_gi_i_k_i_i_i_k lt_gi_i_k_i_i_i_kh lt_gi_i_k_k_i_i_i lt_gi_i_k_k_i_i_ih lt_gi_i_k_k_i_i_i_k lt_gi_i_k_k_i_i_i_kh lt_gi_i_i_k_i lt_gi_i_i_k_ih lt_gi_i_i_k_i_k lt_gi_i_i_k_i_kh lt_gi_i_i_k_k_i lt_gi_i_i_k_k_ih lt_gi_i_i_k_k_i_k lt_gi_i_i_k_k_i_kh lt_gi_i_i_k_i_i lt_gi_i_i_k_i_ih lt_gi_i_i_k_i_i_k lt_gi_i_i_k_i_i_kh lt_gi_i_i_k_k_i_i lt_gi_i_i_k_k_i_ih lt_gi_i_i_k_k_i_i_k lt_gi_i_i_k_k_i_i_kh lt_gi_i_i_k_i_i_i lt_gi_i_i_k_i_i_ih lt_gi_i_i_k_i_i_i_k lt_gi_i_i_k_i_i_i_kh lt_gi_i_i_k_k_i_i_i lt_gi_i_i_k_k_i_i_ih lt_gi_i_i_k_k_i_i_i_k lt_gi_i_i_k_k_i_i_i_kh lt_gi_i_i_i_k_i lt_gi_i_i_i_k_ih lt_gi_i_i_i_k_i_k lt_gi_i_i_i_k_i_kh lt_gi_i_i_i_k_k_i lt_gi_i_i_i_k_k_ih lt_gi_i_i_i_k_k_i_k lt_gi_i_i_i_k_k_i_kh lt_gi_i_i_i_k_i_i lt_gi_i_i_i_k_i_ih lt_gi_i_i_i_k_i_i_k lt_gi_i_i_i_k_i_i_kh lt_gi_i_i_i_k_k_i_i lt_gi_i_i_i_k_k_i_ih lt_gi_i_i_i_k_k_i_i_k lt_gi_i_i_i_k_k_i_i_kh lt_gi_i_i_i_k_i_i_i lt_gi_i_i_i_k_i_i_ih lt_gi_i_i_i_k_i_i_i_k lt_gi_i_i_i_k_i_i_i_kh lt_gi_i_i_i_k_k_i_i_i lt_gi_i_i_i_k_k_i_i_ih lt_gi_i_i_i_k_k_i_i_i_k lt_gi_i_i_i_k_k_i_i_i_kh lt_gi_i_i_i_i_k_i lt_gi_i_i_i_i_k_ih lt_gi_i_i_i_i_k_i_k lt_gi_i_i_i_i_k_i_kh lt_gi_i_i_i_i_k_k_i lt_gi_i_i_i_i_k_k_ih lt_gi_i_i_i_i_k_k_i_k lt_gi_i_i_i_i_k_k_i_kh lt_gi_i_i_i_i_k_i_i lt_gi_i_i_i_i_k_i_ih lt_gi_i_i_i_i_k_i_i_k lt_gi_i_i_i_i_k_i_i_kh lt_gi_i_i_i_i_k_k_i_i lt_gi_i_i_i_i_k_k_i_ih lt_gi_i_i_i_i_k_k_i_i_k lt_gi_i_i_i_i_k_k_i_i_kh lt_gi_i_i_i_i_k_i_i_i lt_gi_i_i_i_i_k_i_i_ih lt_gi_i_i_i_i_k_i_i_i_k lt_gi_i_i_i_i_k_i_i_i_kh lt_gi_i_i_i_i_k_k_i_i_i lt_gi_i_i_i_i_k_k_i_i_ih lt_gi_i_i_i_i_k_k_i_i_i_k lt_gi_i_i_i_i_k_k_i_i_i_kh
end Go.Proofs.Ytmmibfjhjbjgeaa
