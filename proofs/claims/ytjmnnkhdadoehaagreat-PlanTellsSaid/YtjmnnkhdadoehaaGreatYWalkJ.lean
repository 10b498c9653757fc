/- What single calls do, the count of draws kept: the order of two entries, as slices.SortFunc asks it. -/
import Derived.Test.YtjmnnkhdadoehaaGreatYWalkI
import Derived.Test.YtjmnnkhdadoehaaGreatYPlan
import Derived.Shelf.SlSortCmp.WholeK
namespace Go.Proofs.YtjmnnkhdadoehaaGreat.D
open Go.RowKit
set_option linter.unusedSimpArgs false
set_option linter.unusedVariables false
attribute [local go_sem high] eql_25 neq_25 eql_44 neq_62 eql_48 eql_50
attribute [local go_sem] eqg_25 eqg_62 eqg_48 eqg_50 cell_grew frozen_grew size_grew grew_grew lt_addk Instr.field asAgg lt_gi_k
theorem reads_grew {α : Type} {enc : α → List Value} {k : Nat} {w : World} {A : Option Addr} {xs : List α} (h : Reads enc k w A xs) (p : Ext) : Reads enc k (grew w p) A xs := h.below (grew_below w p)
set_option maxRecDepth 100000 in
set_option maxHeartbeats 2000000 in
theorem c_isNaN (a : Int)  (w : World) :
    Calls Tryz.prog 137 #[.int .i64 a] w fun e w' => e = .returned (.bool false) ∧ Later w w' := by
  go_enter Tryz.func137, Tryz.ntmps137
  go_wp2
  all_goals
    refine bodyPost_ret (v := .bool false) ?_ rfl ⟨rfl, ?_⟩
    · simp [results, Tryz.f137, go_sem] <;> (first | rfl | (simp; done) | (simp_all; done) | (intros; omega))
    · repeat' (first | with_reducible exact Later.refl _ | with_reducible assumption | with_reducible apply below_grews | with_reducible apply later_alloc | with_reducible apply later_drew)
set_option maxRecDepth 100000 in
set_option maxHeartbeats 2000000 in
theorem c_cmpInt (a : Int) (b : Int)  (w : World) :
    Calls Tryz.prog 101 #[.int .i64 a, .int .i64 b] w fun e w' => e = .returned (.int .i64 (cmpInt a b)) ∧ Later w w' := by
  go_enter Tryz.func101, Tryz.ntmps101
  go_wp2_with (first | (go_at_call 137; refine (c_isNaN _ _).mono ?_; rintro e w' ⟨rfl, hb⟩; obtain ⟨p, rfl⟩ := below_grew hb; clear hb))
  all_goals
    refine bodyPost_ret (v := .int .i64 (cmpInt a b)) ?_ rfl ⟨rfl, ?_⟩
    · simp [results, Tryz.f101, go_sem] <;> (first | rfl | (simp [cmpInt]; done) | (simp [cmpInt] <;> omega) | (simp_all [cmpInt]; done) | (simp only [cmpInt]; (repeat' split) <;> first | rfl | (simp; done) | (exfalso; omega) | (simp; omega)) | (simp_all [cmpInt] <;> omega) | (intros; omega))
    · repeat' (first | with_reducible exact Later.refl _ | with_reducible assumption | with_reducible apply below_grews | with_reducible apply later_alloc | with_reducible apply later_drew)
set_option maxRecDepth 100000 in
set_option maxHeartbeats 2000000 in
theorem c_addrCompare (a0 a1 : Int) (b0 b1 : Int)  (w : World) :
    Calls Tryz.prog 102 #[.agg #[.int .u64 a0, .int .u64 a1], .agg #[.int .u64 b0, .int .u64 b1]] w fun e w' => e = .returned (.int .i64 (aCompare (⟨a0, a1⟩ : A2) (⟨b0, b1⟩ : A2))) ∧ Later w w' := by
  go_enter Tryz.func102, Tryz.ntmps102
  go_wp2_with (first | (refine wp_loop_rounds 3 ?_; rw [rounds_succ]) | (rw [rounds_succ]) | (refine wp_region_mix (id := 4) 7 [(0, true), (1, true), (2, true), (3, true), (4, true), (5, true), (6, true)] (by kernel_rfl) (by kernel_rfl) ?_) | (refine wp_region_mix (id := 6) 7 [(0, true), (1, true), (2, true), (3, true), (4, true), (5, true), (6, true)] (by kernel_rfl) (by kernel_rfl) ?_) | (refine mix_quiet rfl (fun K hK => ?_); go_simp) | (refine mix_end (fun p => ?_); simp only [List.drop_succ_cons, List.drop_zero]))
  all_goals
    refine bodyPost_ret (v := .int .i64 (aCompare (⟨a0, a1⟩ : A2) (⟨b0, b1⟩ : A2))) ?_ rfl ⟨rfl, ?_⟩
    · simp [results, Tryz.f102, go_sem] <;> (first | rfl | (simp [aCompare]; done) | (simp [aCompare] <;> omega) | (simp_all [aCompare]; done) | (simp only [aCompare]; (repeat' split) <;> first | rfl | (simp; done) | (exfalso; omega) | (simp; omega)) | (simp_all [aCompare] <;> omega) | (intros; omega))
    · repeat' (first | with_reducible exact Later.refl _ | with_reducible assumption | with_reducible apply below_grews | with_reducible apply later_alloc | with_reducible apply later_drew)
set_option maxRecDepth 100000 in
set_option maxHeartbeats 4000000 in
theorem c_Or (A : Option Addr) (c : Nat) (xs : List Int) (w : World) (hr : Reads encI 1 w A xs) :
    Calls Tryz.prog 100 #[.slice A xs.length c] w fun e w' => e = .returned (.int .i64 (firstNZ xs)) ∧ Later w w' := by
  have hlen := hr.1
  go_enter Tryz.func100, Tryz.ntmps100
  go_wp2
  go_loopw [8] (fun v8 wr => ∃ k : Nat, k ≤ xs.length ∧ v8 = .int .i64 k ∧ Hid (∀ (i : Nat) (n : Int), i < k → xs[i]? = some n → n = 0) ∧ ∃ q : Ext, wr = grew w q) (fun i _ => xs.length - (intOf i).toNat)
  case atStart => exact ⟨0, Nat.zero_le _, rfl, (fun i x hi => by omega), ⟨0, #[]⟩, by simp [grew]⟩
  case round =>
    obtain ⟨k, hk, rfl, H, q, rfl⟩ := hrel
    by_cases hlt : k < xs.length
    · obtain ⟨b, off, rfl, hb, h0⟩ := hr.atI hlt
      by_cases hz : xs[k] = 0
      · have H2 := Lib.hid (zero_step H.out hlt hz)
        rw [hz] at h0
        clear hz
        go_wp2
        go_roundw
        case rel => exact ⟨k + 1, by omega, by go_num, H2, below_grew (by repeat' (first | with_reducible exact Later.refl _ | with_reducible assumption | with_reducible apply below_grews | with_reducible apply later_alloc | with_reducible apply later_drew))⟩
        case measure => first | (simp [intOf]; done) | (simp [intOf]; omega)
      · go_wp2
        refine bodyPost_ret (v := .int .i64 (firstNZ xs)) ?_ rfl ⟨rfl, ?_⟩
        · rw [firstNZ_hit xs k hlt H.out hz]
          simp [results, Tryz.f100, go_sem]
        · repeat' (first | with_reducible exact Later.refl _ | with_reducible assumption | with_reducible apply below_grews | with_reducible apply later_alloc | with_reducible apply later_drew)
    · obtain rfl : k = xs.length := by omega
      go_wp2
      refine bodyPost_ret (v := .int .i64 (firstNZ xs)) ?_ rfl ⟨rfl, ?_⟩
      · rw [firstNZ_none xs (fun i x hx => H.out i x (List.getElem?_eq_some_iff.1 hx).1 hx)]
        simp [results, Tryz.f100, go_sem]
      · repeat' (first | with_reducible exact Later.refl _ | with_reducible assumption | with_reducible apply below_grews | with_reducible apply later_alloc | with_reducible apply later_drew)
set_option maxRecDepth 100000 in
set_option maxHeartbeats 4000000 in
theorem c_eCompare (x y : Ent) (w : World) : Calls Tryz.prog 70 #[.agg #[.int .u64 x.w.v.x, .int .u64 x.w.v.y, .int .u64 x.w.m.x, .int .u64 x.w.m.y, .int .i64 x.len, .int .i64 x.act], .agg #[.int .u64 y.w.v.x, .int .u64 y.w.v.y, .int .u64 y.w.m.x, .int .u64 y.w.m.y, .int .i64 y.len, .int .i64 y.act]] w fun e w' => e = .returned (.int .i64 (eCmp x y)) ∧ Later w w' := by
  have hF := fun N W (h : Reads encI 1 W (some ⟨N, 0, none⟩) [cmpInt y.len x.len, aCompare x.w.v y.w.v, aCompare x.w.m y.w.m, cmpInt x.act y.act]) => c_Or (some ⟨N, 0, none⟩) 4 _ W h
  change ∀ N W (h : Reads encI 1 W (some ⟨N, 0, none⟩) [cmpInt y.len x.len, aCompare x.w.v y.w.v, aCompare x.w.m y.w.m, cmpInt x.act y.act]), Calls Tryz.prog 100 #[.slice (some ⟨N, 0, none⟩) 4 4] W fun e w' => e = .returned (.int .i64 (eCmp x y)) ∧ Later W w' at hF
  generalize eCmp x y = R at hF ⊢
  have HF := Lib.hid hF
  clear hF
  go_enter Tryz.func70, Tryz.ntmps70
  go_wp2_with (first | (go_at_call 101; refine (c_cmpInt _ _ _).mono ?_; rintro e w' ⟨rfl, hb⟩; obtain ⟨p, rfl⟩ := below_grew hb; clear hb) | (go_at_call 102; refine (c_addrCompare _ _ _ _ _).mono ?_; rintro e w' ⟨rfl, hb⟩; obtain ⟨p, rfl⟩ := below_grew hb; clear hb) | (refine wp_region_plan (id := 1) 26 (.quiet 0 (.quiet 1 (.quiet 2 (.quiet 3 (.quiet 4 (.quiet 5 (.quiet 6 (.quiet 7 (.quiet 8 (.quiet 9 (.quiet 10 (.quiet 11 (.quiet 12 (.quiet 13 (.quiet 14 (.quiet 15 (.quiet 16 (.quiet 17 (.quiet 18 (.quiet 19 (.quiet 20 (.quiet 21 (.quiet 22 (.quiet 23 (.loud 24 (.loud 25 .done)))))))))))))))))))))))))) (by kernel_rfl) (by kernel_rfl) ?_) | (refine mix_quiet rfl (fun K hK => ?_); go_simp) | (apply Exists.intro; refine ⟨fun (_ : Ext) => ?_, ?_⟩; · (first | (go_at_call 101; exact calls_later (c_cmpInt _ _ _)) | (go_at_call 102; exact calls_later (c_addrCompare _ _ _ _ _)))) | (refine mix_end (fun p => ?_); simp only [List.drop_succ_cons, List.drop_zero]) | (refine plan_quiet rfl (fun K hK => ?_); go_simp) | (refine plan_end (fun p => ?_); simp only [List.drop_succ_cons, List.drop_zero]) | (refine plan_fork ?_ ?_) | (refine plan_loud rfl (fun p K hK => ?_); go_simp; try ((with_reducible refine hK _ _ ?hkc ?_); (case hkc => refine below_grew ?_; repeat' (first | with_reducible exact Later.refl _ | with_reducible assumption | with_reducible exact below_more _ _ _ _ | with_reducible exact below_more0 _ _ _ | with_reducible apply below_grews | with_reducible apply later_alloc | with_reducible apply later_drew)))))
  refine (HF.out _ _ ?r).mono ?_
  case r => refine reads_grew (Reads.made' (enc := encI) (k := 1) (fun _ => rfl) [cmpInt y.len x.len, aCompare x.w.v y.w.v, aCompare x.w.m y.w.m, cmpInt x.act y.act] (by simp) ?_ ?_) _ <;> first | rfl | (simp [size_grew]; done)
  rintro e w' ⟨rfl, hb⟩
  obtain ⟨p5, rfl⟩ := below_grew hb
  clear hb
  (refine hK _ _ (below_grew (by repeat' (first | with_reducible exact Later.refl _ | with_reducible assumption | with_reducible exact below_more _ _ _ _ | with_reducible exact below_more0 _ _ _ | with_reducible apply below_grews | with_reducible apply later_alloc | with_reducible apply later_drew))) ?_)
  go_wp2_with (first | (go_at_call 101; refine (c_cmpInt _ _ _).mono ?_; rintro e w' ⟨rfl, hb⟩; obtain ⟨p, rfl⟩ := below_grew hb; clear hb) | (go_at_call 102; refine (c_addrCompare _ _ _ _ _).mono ?_; rintro e w' ⟨rfl, hb⟩; obtain ⟨p, rfl⟩ := below_grew hb; clear hb) | (refine wp_region_plan (id := 1) 26 (.quiet 0 (.quiet 1 (.quiet 2 (.quiet 3 (.quiet 4 (.quiet 5 (.quiet 6 (.quiet 7 (.quiet 8 (.quiet 9 (.quiet 10 (.quiet 11 (.quiet 12 (.quiet 13 (.quiet 14 (.quiet 15 (.quiet 16 (.quiet 17 (.quiet 18 (.quiet 19 (.quiet 20 (.quiet 21 (.quiet 22 (.quiet 23 (.loud 24 (.loud 25 .done)))))))))))))))))))))))))) (by kernel_rfl) (by kernel_rfl) ?_) | (refine mix_quiet rfl (fun K hK => ?_); go_simp) | (apply Exists.intro; refine ⟨fun (_ : Ext) => ?_, ?_⟩; · (first | (go_at_call 101; exact calls_later (c_cmpInt _ _ _)) | (go_at_call 102; exact calls_later (c_addrCompare _ _ _ _ _)))) | (refine mix_end (fun p => ?_); simp only [List.drop_succ_cons, List.drop_zero]) | (refine plan_quiet rfl (fun K hK => ?_); go_simp) | (refine plan_end (fun p => ?_); simp only [List.drop_succ_cons, List.drop_zero]) | (refine plan_fork ?_ ?_) | (refine plan_loud rfl (fun p K hK => ?_); go_simp; try ((with_reducible refine hK _ _ ?hkc ?_); (case hkc => refine below_grew ?_; repeat' (first | with_reducible exact Later.refl _ | with_reducible assumption | with_reducible exact below_more _ _ _ _ | with_reducible exact below_more0 _ _ _ | with_reducible apply below_grews | with_reducible apply later_alloc | with_reducible apply later_drew)))))
  refine bodyPost_ret (v := .int .i64 R) ?_ rfl ⟨rfl, ?_⟩
  · simp [results, Tryz.f70, go_sem]
  · repeat' (first | with_reducible exact Later.refl _ | with_reducible assumption | with_reducible apply below_grews | with_reducible apply later_alloc | with_reducible apply later_drew)
end Go.Proofs.YtjmnnkhdadoehaaGreat.D
