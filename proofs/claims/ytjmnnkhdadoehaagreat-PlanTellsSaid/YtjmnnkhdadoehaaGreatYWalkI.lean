/- What single calls do: the order of two entries. -/
import Derived.Test.YtjmnnkhdadoehaaGreatYWalkH
import Derived.Test.YtjmnnkhdadoehaaGreatYSpec
import Derived.Lib.Hide
namespace Go.Proofs.YtjmnnkhdadoehaaGreat
set_option linter.unusedSimpArgs false
set_option linter.unusedVariables false
open Go.RowKit
attribute [local go_sem high] eql_25 neq_25 eql_44 neq_62 eql_48 eql_50
attribute [local go_sem] eqg_25 eqg_62 eqg_48 eqg_50 cell_grew frozen_grew size_grew grew_grew lt_addk Instr.field asAgg lt_gi_k
theorem Reads.atI {w : World} {A : Option Addr} {xs : List Int} (h : Reads encI 1 w A xs) {i : Nat} (hi : i < xs.length) : ∃ b off, A = some ⟨b, off, none⟩ ∧ b < w.heap.size ∧ w.cell? ⟨b, off + i, none⟩ = some (.int .i64 xs[i]) := by
  obtain ⟨b, off, e, hl, hc⟩ := h.2 i xs[i] (List.getElem?_eq_getElem hi)
  exact ⟨b, off, e, hl, by simpa using hc 0 _ rfl⟩
theorem zero_step {xs : List Int} {k : Nat} (H : ∀ (i : Nat) (n : Int), i < k → xs[i]? = some n → n = 0) (hk : k < xs.length) (h : xs[k] = 0) : ∀ (i : Nat) (n : Int), i < k + 1 → xs[i]? = some n → n = 0 := by
  intro i n hi hn
  by_cases e : i = k
  · subst e
    rw [List.getElem?_eq_getElem hk, Option.some.injEq] at hn
    rw [← hn]; exact h
  · exact H i n (by omega) hn
set_option maxRecDepth 100000 in
set_option maxHeartbeats 4000000 in
theorem c_Or (A : Option Addr) (c : Nat) (xs : List Int) (w : World) (hr : Reads encI 1 w A xs) :
    Calls Tryz.prog 100 #[.slice A xs.length c] w fun e w' => e = .returned (.int .i64 (firstNZ xs)) ∧ Below w.heap.size w w' := by
  have hlen := hr.1
  go_enter Tryz.func100, Tryz.ntmps100
  go_wp2
  go_loopw [8] (fun v8 wr => ∃ k : Nat, k ≤ xs.length ∧ v8 = .int .i64 k ∧ Hid (∀ (i : Nat) (n : Int), i < k → xs[i]? = some n → n = 0) ∧ ∃ q : Ext, wr = grew w q) (fun i _ => xs.length - (intOf i).toNat)
  case atStart => exact ⟨0, Nat.zero_le _, rfl, (fun i x hi => by omega), ⟨w.drawn, #[]⟩, by simp [grew]⟩
  case round =>
    obtain ⟨k, hk, rfl, H, q, rfl⟩ := hrel
    by_cases hlt : k < xs.length
    · obtain ⟨b, off, rfl, hb, h0⟩ := hr.atI hlt
      by_cases hz : xs[k] = 0
      · have H2 := Lib.hid (zero_step H.out hlt hz)
        rw [hz] at h0
        clear hz
        go_wp2
        go_roundw
        case rel => exact ⟨k + 1, by omega, by go_num, H2, below_grew (by repeat' (first | with_reducible exact Below.refl _ _ | with_reducible assumption | with_reducible apply below_grews | with_reducible apply Below.drew | with_reducible apply Below.alloc | with_reducible apply Below.setCell | (simp [size_grew, -Nat.not_le, -Nat.not_lt] <;> omega)))⟩
        case measure => first | (simp [intOf]; done) | (simp [intOf]; omega)
      · go_wp2
        refine bodyPost_ret (v := .int .i64 (firstNZ xs)) ?_ rfl ⟨rfl, ?_⟩
        · rw [firstNZ_hit xs k hlt H.out hz]
          simp [results, Tryz.f100, go_sem]
        · repeat' (first | with_reducible exact Below.refl _ _ | with_reducible assumption | with_reducible apply below_grews | with_reducible apply Below.drew | with_reducible apply Below.alloc | with_reducible apply Below.setCell | (simp [size_grew, -Nat.not_le, -Nat.not_lt] <;> omega))
    · obtain rfl : k = xs.length := by omega
      go_wp2
      refine bodyPost_ret (v := .int .i64 (firstNZ xs)) ?_ rfl ⟨rfl, ?_⟩
      · rw [firstNZ_none xs (fun i x hx => H.out i x (List.getElem?_eq_some_iff.1 hx).1 hx)]
        simp [results, Tryz.f100, go_sem]
      · repeat' (first | with_reducible exact Below.refl _ _ | with_reducible assumption | with_reducible apply below_grews | with_reducible apply Below.drew | with_reducible apply Below.alloc | with_reducible apply Below.setCell | (simp [size_grew, -Nat.not_le, -Nat.not_lt] <;> omega))
set_option maxRecDepth 100000 in
set_option maxHeartbeats 4000000 in
theorem c_eCompare (x y : Ent) (w : World) : Calls Tryz.prog 70 #[.agg #[.int .u64 x.w.v.x, .int .u64 x.w.v.y, .int .u64 x.w.m.x, .int .u64 x.w.m.y, .int .i64 x.len, .int .i64 x.act], .agg #[.int .u64 y.w.v.x, .int .u64 y.w.v.y, .int .u64 y.w.m.x, .int .u64 y.w.m.y, .int .i64 y.len, .int .i64 y.act]] w fun e w' => e = .returned (.int .i64 (eCmp x y)) ∧ Below w.heap.size w w' := by
  have hF := fun N W (h : Reads encI 1 W (some ⟨N, 0, none⟩) [cmpInt y.len x.len, aCompare x.w.v y.w.v, aCompare x.w.m y.w.m, cmpInt x.act y.act]) => c_Or (some ⟨N, 0, none⟩) 4 _ W h
  change ∀ N W (h : Reads encI 1 W (some ⟨N, 0, none⟩) [cmpInt y.len x.len, aCompare x.w.v y.w.v, aCompare x.w.m y.w.m, cmpInt x.act y.act]), Calls Tryz.prog 100 #[.slice (some ⟨N, 0, none⟩) 4 4] W fun e w' => e = .returned (.int .i64 (eCmp x y)) ∧ Below W.heap.size W w' at hF
  generalize eCmp x y = R at hF ⊢
  have HF := Lib.hid hF
  clear hF
  go_enter Tryz.func70, Tryz.ntmps70
  go_wp2_with (first | (go_at_call 101; refine (c_cmpInt _ _ _).mono ?_; rintro e w' ⟨rfl, hb⟩; obtain ⟨p, rfl⟩ := below_grew hb; clear hb) | (go_at_call 102; refine (c_addrCompare _ _ _ _ _).mono ?_; rintro e w' ⟨rfl, hb⟩; obtain ⟨p, rfl⟩ := below_grew hb; clear hb) | (refine wp_region_plan (id := 1) 26 (.quiet 0 (.quiet 1 (.quiet 2 (.quiet 3 (.quiet 4 (.quiet 5 (.quiet 6 (.quiet 7 (.quiet 8 (.quiet 9 (.quiet 10 (.quiet 11 (.quiet 12 (.quiet 13 (.quiet 14 (.quiet 15 (.quiet 16 (.quiet 17 (.quiet 18 (.quiet 19 (.quiet 20 (.quiet 21 (.quiet 22 (.quiet 23 (.loud 24 (.loud 25 .done)))))))))))))))))))))))))) (by kernel_rfl) (by kernel_rfl) ?_) | (refine mix_quiet rfl (fun K hK => ?_); go_simp) | (apply Exists.intro; refine ⟨fun (_ : Ext) => ?_, ?_⟩; · (first | (go_at_call 101; exact calls_later (c_cmpInt _ _ _)) | (go_at_call 102; exact calls_later (c_addrCompare _ _ _ _ _)))) | (refine mix_end (fun p => ?_); simp only [List.drop_succ_cons, List.drop_zero]) | (refine plan_quiet rfl (fun K hK => ?_); go_simp) | (refine plan_end (fun p => ?_); simp only [List.drop_succ_cons, List.drop_zero]) | (refine plan_fork ?_ ?_) | (refine plan_loud rfl (fun p K hK => ?_); go_simp; try ((with_reducible refine hK _ _ ?hkc ?_); (case hkc => refine below_grew ?_; (try simp only [grew_grew, Array.append_assoc]); repeat' (first | with_reducible exact Below.refl _ _ | with_reducible assumption | with_reducible exact below_more _ _ _ _ | (with_reducible refine below_app _ _ _ _ ?_ ?_; rotate_left; simp only [Array.append_assoc]; rfl) | with_reducible apply below_grews | with_reducible apply Below.drew | with_reducible apply Below.alloc | with_reducible apply Below.setCell | (simp [size_grew, -Nat.not_le, -Nat.not_lt] <;> omega))))))
  refine (HF.out _ _ ?r).mono ?_
  case r => refine Reads.grew (Reads.made' (enc := encI) (k := 1) (fun _ => rfl) [cmpInt y.len x.len, aCompare x.w.v y.w.v, aCompare x.w.m y.w.m, cmpInt x.act y.act] (by simp) ?_ ?_) _ <;> first | rfl | (simp [size_grew]; done)
  rintro e w' ⟨rfl, hb⟩
  obtain ⟨p5, rfl⟩ := below_grew hb
  clear hb
  (refine hK _ _ (below_grew (by (try simp only [grew_grew, Array.append_assoc]); repeat' (first | with_reducible exact Below.refl _ _ | with_reducible assumption | with_reducible exact below_more _ _ _ _ | (with_reducible refine below_app _ _ _ _ ?_ ?_; rotate_left; simp only [Array.append_assoc]; rfl) | with_reducible apply below_grews | with_reducible apply Below.drew | with_reducible apply Below.alloc | with_reducible apply Below.setCell | (simp [size_grew, -Nat.not_le, -Nat.not_lt] <;> omega)))) ?_)
  go_wp2_with (first | (go_at_call 101; refine (c_cmpInt _ _ _).mono ?_; rintro e w' ⟨rfl, hb⟩; obtain ⟨p, rfl⟩ := below_grew hb; clear hb) | (go_at_call 102; refine (c_addrCompare _ _ _ _ _).mono ?_; rintro e w' ⟨rfl, hb⟩; obtain ⟨p, rfl⟩ := below_grew hb; clear hb) | (refine wp_region_plan (id := 1) 26 (.quiet 0 (.quiet 1 (.quiet 2 (.quiet 3 (.quiet 4 (.quiet 5 (.quiet 6 (.quiet 7 (.quiet 8 (.quiet 9 (.quiet 10 (.quiet 11 (.quiet 12 (.quiet 13 (.quiet 14 (.quiet 15 (.quiet 16 (.quiet 17 (.quiet 18 (.quiet 19 (.quiet 20 (.quiet 21 (.quiet 22 (.quiet 23 (.loud 24 (.loud 25 .done)))))))))))))))))))))))))) (by kernel_rfl) (by kernel_rfl) ?_) | (refine mix_quiet rfl (fun K hK => ?_); go_simp) | (apply Exists.intro; refine ⟨fun (_ : Ext) => ?_, ?_⟩; · (first | (go_at_call 101; exact calls_later (c_cmpInt _ _ _)) | (go_at_call 102; exact calls_later (c_addrCompare _ _ _ _ _)))) | (refine mix_end (fun p => ?_); simp only [List.drop_succ_cons, List.drop_zero]) | (refine plan_quiet rfl (fun K hK => ?_); go_simp) | (refine plan_end (fun p => ?_); simp only [List.drop_succ_cons, List.drop_zero]) | (refine plan_fork ?_ ?_) | (refine plan_loud rfl (fun p K hK => ?_); go_simp; try ((with_reducible refine hK _ _ ?hkc ?_); (case hkc => refine below_grew ?_; (try simp only [grew_grew, Array.append_assoc]); repeat' (first | with_reducible exact Below.refl _ _ | with_reducible assumption | with_reducible exact below_more _ _ _ _ | (with_reducible refine below_app _ _ _ _ ?_ ?_; rotate_left; simp only [Array.append_assoc]; rfl) | with_reducible apply below_grews | with_reducible apply Below.drew | with_reducible apply Below.alloc | with_reducible apply Below.setCell | (simp [size_grew, -Nat.not_le, -Nat.not_lt] <;> omega))))))
  refine bodyPost_ret (v := .int .i64 R) ?_ rfl ⟨rfl, ?_⟩
  · simp [results, Tryz.f70, go_sem]
  · repeat' (first | with_reducible exact Below.refl _ _ | with_reducible assumption | with_reducible apply below_grews | with_reducible apply Below.drew | with_reducible apply Below.alloc | with_reducible apply Below.setCell | (simp [size_grew, -Nat.not_le, -Nat.not_lt] <;> omega))
set_option maxRecDepth 100000 in
set_option maxHeartbeats 2000000 in
theorem c_r5Compare (x0 x1 x2 x3 x4 x5 : Int) (y0 y1 y2 y3 y4 y5 : Int) (h1 : A2.ok (⟨⟨⟨x0, x1⟩, ⟨x2, x3⟩⟩, x4, x5⟩ : Ent).w.v) (h2 : A2.ok (⟨⟨⟨x0, x1⟩, ⟨x2, x3⟩⟩, x4, x5⟩ : Ent).w.m) (h3 : A2.ok (⟨⟨⟨y0, y1⟩, ⟨y2, y3⟩⟩, y4, y5⟩ : Ent).w.v) (h4 : A2.ok (⟨⟨⟨y0, y1⟩, ⟨y2, y3⟩⟩, y4, y5⟩ : Ent).w.m) (w : World) :
    Calls Tryz.prog 46 #[.agg #[.int .u64 x0, .int .u64 x1, .int .u64 x2, .int .u64 x3, .int .i64 x4, .int .i64 x5], .agg #[.int .u64 y0, .int .u64 y1, .int .u64 y2, .int .u64 y3, .int .i64 y4, .int .i64 y5]] w fun e w' => e = .returned (.int .i64 (rCmp (⟨⟨⟨x0, x1⟩, ⟨x2, x3⟩⟩, x4, x5⟩ : Ent) (⟨⟨⟨y0, y1⟩, ⟨y2, y3⟩⟩, y4, y5⟩ : Ent))) ∧ Below w.heap.size w w' := by
  go_enter Tryz.func46, Tryz.ntmps46
  go_wp2_with (first | (go_at_call 84; refine (c_r01Compare _ _ _ _ (by assumption) (by assumption) _).mono ?_; rintro e w' ⟨rfl, hb⟩; obtain ⟨p, rfl⟩ := below_grew hb; clear hb))
  all_goals
    refine bodyPost_ret (v := .int .i64 (rCmp (⟨⟨⟨x0, x1⟩, ⟨x2, x3⟩⟩, x4, x5⟩ : Ent) (⟨⟨⟨y0, y1⟩, ⟨y2, y3⟩⟩, y4, y5⟩ : Ent))) ?_ rfl ⟨rfl, ?_⟩
    · simp [results, Tryz.f46, go_sem] <;> (first | rfl | (simp [rCmp, cmpInt]; done) | (simp [rCmp, cmpInt] <;> omega) | (simp_all [rCmp, cmpInt]; done) | (simp only [rCmp, cmpInt]; (repeat' split) <;> first | rfl | (simp; done) | (exfalso; omega) | (simp; omega)) | (simp_all [rCmp, cmpInt] <;> omega) | (intros; omega))
    · repeat' (first | with_reducible exact Below.refl _ _ | with_reducible assumption | with_reducible apply below_grews | with_reducible apply Below.drew | with_reducible apply Below.alloc | with_reducible apply Below.setCell | (simp [size_grew, -Nat.not_le, -Nat.not_lt] <;> omega))
end Go.Proofs.YtjmnnkhdadoehaaGreat
