/- What single calls do: orders. -/
import Derived.Test.YtjmnnkhdadoehaaGreatYWalkR
import Derived.Test.YtjmnnkhdadoehaaGreatYPureA
import Derived.Test.YtjmnnkhdadoehaaGreatYWalkA
import Derived.Test.YtjmnnkhdadoehaaGreatYRead
import Derived.Test.YtjmnnkhdadoehaaGreatYPlan
namespace Go.Proofs.YtjmnnkhdadoehaaGreat
set_option linter.unusedSimpArgs false
set_option linter.unusedVariables false
open Go.RowKit
attribute [local go_sem high] eql_25 neq_25 eql_44 neq_62 eql_48 eql_50
attribute [local go_sem] eqg_25 eqg_62 eqg_48 eqg_50 cell_grew frozen_grew size_grew grew_grew lt_addk Instr.field asAgg lt_gi_k
set_option maxRecDepth 100000 in
set_option maxHeartbeats 4000000 in
theorem c_Common (a0 a1 b0 b1 : Int) (h1 : A2.ok ⟨a0, a1⟩) (h2 : A2.ok ⟨b0, b1⟩) (w : World) :
    Calls Tryz.prog 120 #[.agg #[.int .u64 a0, .int .u64 a1], .agg #[.int .u64 b0, .int .u64 b1]] w fun e w' => ∃ k : Nat, e = .returned (.int .i64 k) ∧ k ≤ 128 ∧ allTo (eqP ⟨a0, a1⟩ ⟨b0, b1⟩) k = true ∧ (k < 128 → abit ⟨a0, a1⟩ k ≠ abit ⟨b0, b1⟩ k) ∧ Below w.heap.size w w' := by
  go_enter Tryz.func120, Tryz.ntmps120
  go_wp2_with fail
  refine (c_Bits _ _ h1 _).mono ?_
  rintro e w' ⟨x1, rfl, g1, r1, l1⟩
  obtain ⟨p1, rfl⟩ := below_grew l1
  clear l1 g1
  go_wp2_with fail
  refine (c_Bits _ _ h2 _).mono ?_
  rintro e w' ⟨x2, rfl, g2, r2, l2⟩
  obtain ⟨p2, rfl⟩ := below_grew l2
  clear l2 g2
  replace r1 := rowIs_grew r1 p2
  simp only [grew_grew, Array.append_assoc] at r1 r2
  go_wp2_with fail
  obtain ⟨W1, hW⟩ : ∃ W1, W1 = grew ((w.alloc (.cells #[.int .u64 a0, .int .u64 a1] 24)).alloc (.cells #[.int .u64 b0, .int .u64 b1] 24)) ⟨p2.d, p1.os ++ p2.os⟩ := ⟨_, rfl⟩
  have HB : Below w.heap.size w W1 := by
    rw [hW]
    repeat' (first | with_reducible exact Below.refl _ _ | with_reducible assumption | with_reducible apply below_grews | with_reducible apply Below.drew | with_reducible apply Below.alloc | with_reducible apply Below.setCell | (simp [size_grew, -Nat.not_le, -Nat.not_lt] <;> omega))
  rw [← hW] at r1 r2 ⊢
  clear hW
  have z1 := r1.lt
  have z2 := r2.lt
  go_loopw [7] (fun v7 wr => ∃ k : Nat, k ≤ 128 ∧ v7 = .int .i64 k ∧ Hid (allTo (eqP ⟨a0, a1⟩ ⟨b0, b1⟩) k = true) ∧ ∃ q : Ext, wr = grew W1 q) (fun i _ => 128 - (intOf i).toNat)
  case atStart => exact ⟨0, by omega, rfl, rfl, ⟨W1.drawn, #[]⟩, by first | (simp [grew]; done) | (simp [grew]; rfl)⟩
  case round =>
    obtain ⟨k, hk, rfl, H, q, rfl⟩ := hrel
    by_cases hlt : k < 128
    · have c1 := r1.cell hlt
      have c2 := r2.cell hlt
      cases hq : (abit ⟨a0, a1⟩ k == abit ⟨b0, b1⟩ k) with
      | true =>
        have Hn := Lib.hid (allTo_succ H.out (show eqP ⟨a0, a1⟩ ⟨b0, b1⟩ k = true from hq))
        have hq2 : abit ⟨a0, a1⟩ k = abit ⟨b0, b1⟩ k := by simpa using hq
        rw [hq2] at c1
        clear hq hq2
        go_wp2_with (first | (refine wp_region_mix (id := 4) 12 [(0, true), (1, true), (2, true), (3, true), (4, true), (5, true), (6, true), (7, true), (8, true), (9, true), (10, true), (11, true)] (by kernel_rfl) (by kernel_rfl) ?_) | (refine mix_quiet rfl (fun K hK => ?_); go_simp) | (refine mix_end (fun p => ?_); simp only [List.drop_succ_cons, List.drop_zero]))
        go_roundw
        case rel => exact ⟨k + 1, by omega, by go_num, Hn, below_grew (by repeat' (first | with_reducible exact Below.refl _ _ | with_reducible assumption | with_reducible apply below_grews | with_reducible apply Below.drew | with_reducible apply Below.alloc | with_reducible apply Below.setCell | (simp [size_grew, -Nat.not_le, -Nat.not_lt] <;> omega)))⟩
        case measure => first | (simp [intOf]; done) | (simp [intOf]; omega)
      | false =>
        have hne : abit ⟨a0, a1⟩ k ≠ abit ⟨b0, b1⟩ k := by simpa using hq
        have Hne := Lib.hid hne
        clear hne
        go_wp2_with (first | (refine wp_region_mix (id := 4) 12 [(0, true), (1, true), (2, true), (3, true), (4, true), (5, true), (6, true), (7, true), (8, true), (9, true), (10, true), (11, true)] (by kernel_rfl) (by kernel_rfl) ?_) | (refine mix_quiet rfl (fun K hK => ?_); go_simp) | (refine mix_end (fun p => ?_); simp only [List.drop_succ_cons, List.drop_zero]))
        refine bodyPost_ret (v := .int .i64 k) ?_ rfl ⟨k, rfl, hk, H.out, fun _ => Hne.out, ?_⟩
        · simp [results, Tryz.f120, go_sem]
        · repeat' (first | with_reducible exact Below.refl _ _ | with_reducible assumption | with_reducible apply below_grews | with_reducible apply Below.drew | with_reducible apply Below.alloc | with_reducible apply Below.setCell | (simp [size_grew, -Nat.not_le, -Nat.not_lt] <;> omega))
    · obtain rfl : k = 128 := by omega
      go_wp2_with (first | (refine wp_region_mix (id := 4) 12 [(0, true), (1, true), (2, true), (3, true), (4, true), (5, true), (6, true), (7, true), (8, true), (9, true), (10, true), (11, true)] (by kernel_rfl) (by kernel_rfl) ?_) | (refine mix_quiet rfl (fun K hK => ?_); go_simp) | (refine mix_end (fun p => ?_); simp only [List.drop_succ_cons, List.drop_zero]))
      refine bodyPost_ret (v := .int .i64 128) ?_ rfl ⟨128, rfl, by omega, H.out, fun h => by omega, ?_⟩
      · simp [results, Tryz.f120, go_sem]
      · repeat' (first | with_reducible exact Below.refl _ _ | with_reducible assumption | with_reducible apply below_grews | with_reducible apply Below.drew | with_reducible apply Below.alloc | with_reducible apply Below.setCell | (simp [size_grew, -Nat.not_le, -Nat.not_lt] <;> omega))
set_option maxRecDepth 100000 in
set_option maxHeartbeats 4000000 in
theorem c_r01Compare (a0 a1 b0 b1 : Int) (h1 : A2.ok ⟨a0, a1⟩) (h2 : A2.ok ⟨b0, b1⟩) (w : World) :
    Calls Tryz.prog 84 #[.agg #[.int .u64 a0, .int .u64 a1], .agg #[.int .u64 b0, .int .u64 b1]] w fun e w' => e = .returned (.int .i64 (aCompare ⟨a0, a1⟩ ⟨b0, b1⟩)) ∧ Below w.heap.size w w' := by
  obtain ⟨n, hn⟩ : ∃ n, n = aCompare ⟨a0, a1⟩ ⟨b0, b1⟩ := ⟨_, rfl⟩
  rw [← hn]
  have Hn := Lib.hid hn
  clear hn
  go_enter Tryz.func84, Tryz.ntmps84
  go_wp2_with fail
  refine (c_Common _ _ _ _ h1 h2 _).mono ?_
  rintro e w' ⟨k, rfl, hk, hall, hne, l1⟩
  obtain ⟨p1, rfl⟩ := below_grew l1
  have hcb := cmp_bits h1 h2 hk hall
  rw [← Hn.out] at hcb
  clear l1 hall
  by_cases hlt : k < 128
  · have hv := Lib.hid (hcb.2 hlt (hne hlt))
    clear hcb hne
    go_wp2_with fail
    refine (c_Bits _ _ h2 _).mono ?_
    rintro e w' ⟨x2, rfl, g2, r2, l2⟩
    obtain ⟨p2, rfl⟩ := below_grew l2
    clear l2 g2
    simp only [grew_grew, Array.append_assoc] at r2
    have c2 := r2.cell hlt
    have z2 := r2.lt
    cases hb : abit ⟨b0, b1⟩ k with
    | true =>
      rw [hb] at c2
      have e := hv.out
      rw [hb] at e
      have He := Lib.hid e
      clear e hb hv r2
      go_wp2
      refine bodyPost_ret (v := .int .i64 n) ?_ rfl ⟨rfl, ?_⟩
      · rw [He.out]; simp [results, Tryz.f84, go_sem]
      · repeat' (first | with_reducible exact Below.refl _ _ | with_reducible assumption | with_reducible apply below_grews | with_reducible apply Below.drew | with_reducible apply Below.alloc | with_reducible apply Below.setCell | (simp [size_grew, -Nat.not_le, -Nat.not_lt] <;> omega))
    | false =>
      rw [hb] at c2
      have e := hv.out
      rw [hb] at e
      have He := Lib.hid e
      clear e hb hv r2
      go_wp2
      refine bodyPost_ret (v := .int .i64 n) ?_ rfl ⟨rfl, ?_⟩
      · rw [He.out]; simp [results, Tryz.f84, go_sem]
      · repeat' (first | with_reducible exact Below.refl _ _ | with_reducible assumption | with_reducible apply below_grews | with_reducible apply Below.drew | with_reducible apply Below.alloc | with_reducible apply Below.setCell | (simp [size_grew, -Nat.not_le, -Nat.not_lt] <;> omega))
  · obtain rfl : k = 128 := by omega
    have hv := Lib.hid (hcb.1 rfl)
    clear hcb hne
    go_wp2
    refine bodyPost_ret (v := .int .i64 n) ?_ rfl ⟨rfl, ?_⟩
    · rw [hv.out]; simp [results, Tryz.f84, go_sem]
    · repeat' (first | with_reducible exact Below.refl _ _ | with_reducible assumption | with_reducible apply below_grews | with_reducible apply Below.drew | with_reducible apply Below.alloc | with_reducible apply Below.setCell | (simp [size_grew, -Nat.not_le, -Nat.not_lt] <;> omega))
end Go.Proofs.YtjmnnkhdadoehaaGreat
