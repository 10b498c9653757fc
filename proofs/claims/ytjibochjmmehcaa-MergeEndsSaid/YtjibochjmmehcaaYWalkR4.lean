/- What single calls do: the reference's best one. -/
import Derived.Test.YtjibochjmmehcaaYWalkC
import Derived.Test.YtjibochjmmehcaaYSpec
namespace Go.Proofs.Ytjibochjmmehcaa
set_option linter.unusedSimpArgs false
set_option linter.unusedVariables false
open Go.RowKit
attribute [local irreducible] rMatch rMeet
attribute [local go_sem high] eql_41 neq_41 eql_40 neq_40 eql_43 neq_43 eql_59 neq_59 eql_45 neq_45 eql_61 neq_61 eql_53 neq_53 eql_74 neq_74 eql_56 neq_56 eql_76 neq_76
attribute [local go_sem ↓ high] yielded_undef
attribute [local go_sem] eqg_41 eqg_40 eqg_43 eqg_59 eqg_45 eqg_61 eqg_53 eqg_74 eqg_56 eqg_76 cell_grew frozen_grew size_grew grew_grew drewN_grew lt_addk size_setW Instr.field asAgg lt_gi_k lt_gi_kh lt_gi_k_k lt_gi_k_kh lt_gi_k_k_k lt_gi_k_k_kh lt_gi_i_k lt_gi_i_kh lt_gi_i_k_k lt_gi_i_k_kh lt_gi_i_k_k_k lt_gi_i_k_k_kh lt_gi_i_i_k lt_gi_i_i_kh lt_gi_i_i_k_k lt_gi_i_i_k_kh lt_gi_i_i_k_k_k lt_gi_i_i_k_k_kh lt_gi_i_i_i_k lt_gi_i_i_i_kh lt_gi_i_i_i_k_k lt_gi_i_i_i_k_kh lt_gi_i_i_i_k_k_k lt_gi_i_i_i_k_k_kh lt_gi_i_i_i_i_k lt_gi_i_i_i_i_kh lt_gi_i_i_i_i_k_k lt_gi_i_i_i_i_k_kh lt_gi_i_i_i_i_k_k_k lt_gi_i_i_i_i_k_k_kh lt_gi_i_i_i_i_i_k lt_gi_i_i_i_i_i_kh lt_gi_i_i_i_i_i_k_k lt_gi_i_i_i_i_i_k_kh lt_gi_i_i_i_i_i_k_k_k lt_gi_i_i_i_i_i_k_k_kh lt_gi_i_i_i_i_i_i_k lt_gi_i_i_i_i_i_i_kh lt_gi_i_i_i_i_i_i_k_k lt_gi_i_i_i_i_i_i_k_kh lt_gi_i_i_i_i_i_i_k_k_k lt_gi_i_i_i_i_i_i_k_k_kh lt_gi_i_i_i_i_i_i_i_k lt_gi_i_i_i_i_i_i_i_kh lt_gi_i_i_i_i_i_i_i_k_k lt_gi_i_i_i_i_i_i_i_k_kh lt_gi_i_i_i_i_i_i_i_k_k_k lt_gi_i_i_i_i_i_i_i_k_k_kh lt_gi_k_i lt_gi_k_ih lt_gi_k_i_k lt_gi_k_i_kh lt_gi_k_k_i lt_gi_k_k_ih lt_gi_k_k_i_k lt_gi_k_k_i_kh lt_gi_k_i_i lt_gi_k_i_ih lt_gi_k_i_i_k lt_gi_k_i_i_kh lt_gi_k_k_i_i lt_gi_k_k_i_ih lt_gi_k_k_i_i_k lt_gi_k_k_i_i_kh lt_gi_k_i_i_i lt_gi_k_i_i_ih lt_gi_k_i_i_i_k lt_gi_k_i_i_i_kh lt_gi_k_k_i_i_i lt_gi_k_k_i_i_ih lt_gi_k_k_i_i_i_k lt_gi_k_k_i_i_i_kh lt_gi_i_k_i lt_gi_i_k_ih lt_gi_i_k_i_k lt_gi_i_k_i_kh lt_gi_i_k_k_i lt_gi_i_k_k_ih lt_gi_i_k_k_i_k lt_gi_i_k_k_i_kh lt_gi_i_k_i_i lt_gi_i_k_i_ih lt_gi_i_k_i_i_k lt_gi_i_k_i_i_kh lt_gi_i_k_k_i_i lt_gi_i_k_k_i_ih lt_gi_i_k_k_i_i_k lt_gi_i_k_k_i_i_kh lt_gi_i_k_i_i_i lt_gi_i_k_i_i_ih lt_gi_i_k_i_i_i_k lt_gi_i_k_i_i_i_kh lt_gi_i_k_k_i_i_i lt_gi_i_k_k_i_i_ih lt_gi_i_k_k_i_i_i_k lt_gi_i_k_k_i_i_i_kh lt_gi_i_i_k_i lt_gi_i_i_k_ih lt_gi_i_i_k_i_k lt_gi_i_i_k_i_kh lt_gi_i_i_k_k_i lt_gi_i_i_k_k_ih lt_gi_i_i_k_k_i_k lt_gi_i_i_k_k_i_kh lt_gi_i_i_k_i_i lt_gi_i_i_k_i_ih lt_gi_i_i_k_i_i_k lt_gi_i_i_k_i_i_kh lt_gi_i_i_k_k_i_i lt_gi_i_i_k_k_i_ih lt_gi_i_i_k_k_i_i_k lt_gi_i_i_k_k_i_i_kh lt_gi_i_i_k_i_i_i lt_gi_i_i_k_i_i_ih lt_gi_i_i_k_i_i_i_k lt_gi_i_i_k_i_i_i_kh lt_gi_i_i_k_k_i_i_i lt_gi_i_i_k_k_i_i_ih lt_gi_i_i_k_k_i_i_i_k lt_gi_i_i_k_k_i_i_i_kh lt_gi_i_i_i_k_i lt_gi_i_i_i_k_ih lt_gi_i_i_i_k_i_k lt_gi_i_i_i_k_i_kh lt_gi_i_i_i_k_k_i lt_gi_i_i_i_k_k_ih lt_gi_i_i_i_k_k_i_k lt_gi_i_i_i_k_k_i_kh lt_gi_i_i_i_k_i_i lt_gi_i_i_i_k_i_ih lt_gi_i_i_i_k_i_i_k lt_gi_i_i_i_k_i_i_kh lt_gi_i_i_i_k_k_i_i lt_gi_i_i_i_k_k_i_ih lt_gi_i_i_i_k_k_i_i_k lt_gi_i_i_i_k_k_i_i_kh lt_gi_i_i_i_k_i_i_i lt_gi_i_i_i_k_i_i_ih lt_gi_i_i_i_k_i_i_i_k lt_gi_i_i_i_k_i_i_i_kh lt_gi_i_i_i_k_k_i_i_i lt_gi_i_i_i_k_k_i_i_ih lt_gi_i_i_i_k_k_i_i_i_k lt_gi_i_i_i_k_k_i_i_i_kh lt_gi_i_i_i_i_k_i lt_gi_i_i_i_i_k_ih lt_gi_i_i_i_i_k_i_k lt_gi_i_i_i_i_k_i_kh lt_gi_i_i_i_i_k_k_i lt_gi_i_i_i_i_k_k_ih lt_gi_i_i_i_i_k_k_i_k lt_gi_i_i_i_i_k_k_i_kh lt_gi_i_i_i_i_k_i_i lt_gi_i_i_i_i_k_i_ih lt_gi_i_i_i_i_k_i_i_k lt_gi_i_i_i_i_k_i_i_kh lt_gi_i_i_i_i_k_k_i_i lt_gi_i_i_i_i_k_k_i_ih lt_gi_i_i_i_i_k_k_i_i_k lt_gi_i_i_i_i_k_k_i_i_kh lt_gi_i_i_i_i_k_i_i_i lt_gi_i_i_i_i_k_i_i_ih lt_gi_i_i_i_i_k_i_i_i_k lt_gi_i_i_i_i_k_i_i_i_kh lt_gi_i_i_i_i_k_k_i_i_i lt_gi_i_i_i_i_k_k_i_i_ih lt_gi_i_i_i_i_k_k_i_i_i_k lt_gi_i_i_i_i_k_k_i_i_i_kh
theorem rb_lt (xs : List Ent) (a : A2) (k : Nat) (hk : k ≤ xs.length) : -1 ≤ rb xs a k ∧ rb xs a k < xs.length := by
  have h := rb_ok xs a (xs.length - k) k (by omega)
  exact ⟨h.ge, h.lt⟩
set_option maxRecDepth 100000 in
set_option maxHeartbeats 4000000 in
theorem c_rBest (A : Option Addr) (c : Nat) (xs : List Ent) (a0 a1 : Int) (ha : A2.ok ⟨a0, a1⟩) (hok : ∀ x ∈ xs, x.w.ok) (w : World) (hr : Reads encE 6 w A xs) :
    Calls Try.prog 45 #[.slice A xs.length c, .agg #[.int .u64 a0, .int .u64 a1]] w fun e w' => e = .returned (.int .i64 (rBest xs ⟨a0, a1⟩)) ∧ Below w.heap.size w w' := by
  have hlen := hr.1
  obtain ⟨f, hf⟩ : ∃ f, f = rBest xs ⟨a0, a1⟩ := ⟨_, rfl⟩
  rw [← hf]
  have Hf := Lib.hid hf
  have Hok := Lib.hid hok
  clear hf hok
  go_enter Try.func45, Try.ntmps45
  go_wp2
  go_loopw [5, 6] (fun v5 v6 wr => ∃ (k : Nat) (b : Int), k ≤ xs.length ∧ v6 = .int .i64 ((k : Int) - 1) ∧ v5 = .int .i64 b ∧ Hid (rb xs ⟨a0, a1⟩ k = b) ∧ ∃ q : Ext, wr = grew (w.alloc (.cells #[.int .u64 a0, .int .u64 a1] 40)) q) (fun _ i _ => ((intOf i) + 1).toNat)
  case atStart => exact ⟨xs.length, -1, Nat.le_refl _, by go_num, rfl, rb_end _ _, ⟨w.drawn, #[]⟩, by first | (simp [grew]; done) | (simp [grew]; rfl)⟩
  case round =>
    obtain ⟨k, b, hk, rfl, rfl, H, q, rfl⟩ := hrel
    obtain ⟨hb1, hb2⟩ : -1 ≤ b ∧ b < xs.length := by rw [← H.out]; exact rb_lt xs _ k hk
    obtain rfl | ⟨m, rfl⟩ : k = 0 ∨ ∃ m, k = m + 1 := by cases k; exact .inl rfl; exact .inr ⟨_, rfl⟩
    · go_wp2
      refine bodyPost_ret (v := .int .i64 f) ?_ rfl ⟨rfl, ?_⟩
      · rw [Hf.out, show rBest xs ⟨a0, a1⟩ = b from H.out]
        simp [results, Try.f45, go_sem]
      · repeat' (first | with_reducible exact Below.refl _ _ | with_reducible assumption | with_reducible apply below_grews | with_reducible apply Below.drew | with_reducible apply Below.alloc | with_reducible apply Below.setCell | (simp [size_grew, -Nat.not_le, -Nat.not_lt] <;> omega))
    · have e1 : ((m + 1 : Nat) : Int) - 1 = m := by omega
      rw [e1]
      clear e1
      have hlt : m < xs.length := by omega
      obtain ⟨bl, off, rfl, hb, h0, h1, h2, h3, h4, h5⟩ := hr.atE hlt
      have o1 : A2.ok ⟨xs[m].w.v.x, xs[m].w.v.y⟩ := (Hok.out _ (List.getElem_mem hlt)).1
      have o2 : A2.ok ⟨xs[m].w.m.x, xs[m].w.m.y⟩ := (Hok.out _ (List.getElem_mem hlt)).2
      by_cases hneg : b < 0
      · go_wp2_with (first | (go_at_call 70; refine (c_rMatch _ _ _ _ _ _ (by assumption) (by assumption) (by assumption) _).mono ?_; rintro e w' ⟨rfl, hb⟩; obtain ⟨p, rfl⟩ := below_grew hb; clear hb) | (refine wp_region_mix (id := 5) 23 [(0, true), (1, true), (2, true), (3, true), (4, true), (5, true), (6, true), (7, true), (8, true), (9, true), (10, true), (11, true), (12, true), (13, true), (14, true), (15, true), (16, true), (17, true), (18, true), (19, true), (20, true), (21, true), (22, true)] (by kernel_rfl) (by kernel_rfl) ?_) | (refine mix_quiet rfl (fun K hK => ?_); go_simp) | (apply Exists.intro; refine ⟨fun (_ : Ext) => ?_, ?_⟩; · (first | (go_at_call 70; exact calls_later (c_rMatch _ _ _ _ _ _ (by assumption) (by assumption) (by assumption) _)))) | (refine mix_end (fun p => ?_); simp only [List.drop_succ_cons, List.drop_zero]))
        all_goals
          go_roundw
          case rel =>
            first
              | (have hm : rMatch xs[m].w ⟨a0, a1⟩ = true := by assumption
                 exact ⟨m, m, by omega, by go_num, rfl, rb_hit H.out hlt hm (.inl hneg), below_grew (by repeat' (first | with_reducible exact Below.refl _ _ | with_reducible assumption | with_reducible apply below_grews | with_reducible apply Below.drew | with_reducible apply Below.alloc | with_reducible apply Below.setCell | (simp [size_grew, -Nat.not_le, -Nat.not_lt] <;> omega)))⟩)
              | (have hm : rMatch xs[m].w ⟨a0, a1⟩ = false := Bool.eq_false_iff.2 (by assumption)
                 exact ⟨m, b, by omega, by go_num, rfl, rb_miss H.out hlt hm, below_grew (by repeat' (first | with_reducible exact Below.refl _ _ | with_reducible assumption | with_reducible apply below_grews | with_reducible apply Below.drew | with_reducible apply Below.alloc | with_reducible apply Below.setCell | (simp [size_grew, -Nat.not_le, -Nat.not_lt] <;> omega)))⟩)
          case measure => first | (simp [intOf]; done) | (simp [intOf]; omega)
      · obtain ⟨j, rfl⟩ : ∃ j : Nat, b = j := ⟨b.toNat, by omega⟩
        have hj : j < xs.length := by omega
        obtain ⟨g0, g1, g2, g3, g4, g5⟩ := hr.atE' hj
        go_wp2_with (first | (go_at_call 70; refine (c_rMatch _ _ _ _ _ _ (by assumption) (by assumption) (by assumption) _).mono ?_; rintro e w' ⟨rfl, hb⟩; obtain ⟨p, rfl⟩ := below_grew hb; clear hb) | (refine wp_region_mix (id := 5) 23 [(0, true), (1, true), (2, true), (3, true), (4, true), (5, true), (6, true), (7, true), (8, true), (9, true), (10, true), (11, true), (12, true), (13, true), (14, true), (15, true), (16, true), (17, true), (18, true), (19, true), (20, true), (21, true), (22, true)] (by kernel_rfl) (by kernel_rfl) ?_) | (refine mix_quiet rfl (fun K hK => ?_); go_simp) | (apply Exists.intro; refine ⟨fun (_ : Ext) => ?_, ?_⟩; · (first | (go_at_call 70; exact calls_later (c_rMatch _ _ _ _ _ _ (by assumption) (by assumption) (by assumption) _)))) | (refine mix_end (fun p => ?_); simp only [List.drop_succ_cons, List.drop_zero]))
        all_goals
          go_roundw
          case rel =>
            first
              | (have hm : rMatch xs[m].w ⟨a0, a1⟩ = false := Bool.eq_false_iff.2 (by assumption)
                 exact ⟨m, j, by omega, by go_num, rfl, rb_miss H.out hlt hm, below_grew (by repeat' (first | with_reducible exact Below.refl _ _ | with_reducible assumption | with_reducible apply below_grews | with_reducible apply Below.drew | with_reducible apply Below.alloc | with_reducible apply Below.setCell | (simp [size_grew, -Nat.not_le, -Nat.not_lt] <;> omega)))⟩)
              | (have hm : rMatch xs[m].w ⟨a0, a1⟩ = true := by assumption
                 have hl : xs[j].len ≤ xs[m].len := by omega
                 exact ⟨m, m, by omega, by go_num, rfl, rb_hit H.out hlt hm (.inr ⟨hj, hl⟩), below_grew (by repeat' (first | with_reducible exact Below.refl _ _ | with_reducible assumption | with_reducible apply below_grews | with_reducible apply Below.drew | with_reducible apply Below.alloc | with_reducible apply Below.setCell | (simp [size_grew, -Nat.not_le, -Nat.not_lt] <;> omega)))⟩)
              | (have hl : ¬ xs[j].len ≤ xs[m].len := by omega
                 exact ⟨m, j, by omega, by go_num, rfl, rb_less H.out hlt (by omega) hj hl, below_grew (by repeat' (first | with_reducible exact Below.refl _ _ | with_reducible assumption | with_reducible apply below_grews | with_reducible apply Below.drew | with_reducible apply Below.alloc | with_reducible apply Below.setCell | (simp [size_grew, -Nat.not_le, -Nat.not_lt] <;> omega)))⟩)
          case measure => first | (simp [intOf]; done) | (simp [intOf]; omega)
def rTell (xs : List Ent) (a : A2) : Int := if rBest xs a < 0 then 0 else (nth xs (rBest xs a).toNat).act
set_option maxRecDepth 100000 in
set_option maxHeartbeats 4000000 in
theorem c_rTell (A : Option Addr) (c : Nat) (xs : List Ent) (a0 a1 : Int) (ha : A2.ok ⟨a0, a1⟩) (hok : ∀ x ∈ xs, x.w.ok) (w : World) (hr : Reads encE 6 w A xs) :
    Calls Try.prog 24 #[.slice A xs.length c, .agg #[.int .u64 a0, .int .u64 a1]] w fun e w' => e = .returned (.int .i64 (rTell xs ⟨a0, a1⟩)) ∧ Below w.heap.size w w' := by
  have hlen := hr.1
  have hc := c_rBest A c xs a0 a1 ha hok _ (hr.alloc (.cells #[.int .u64 a0, .int .u64 a1] 40))
  have hlt := (rb_lt xs ⟨a0, a1⟩ 0 (Nat.zero_le _)).2
  obtain ⟨t, ht⟩ : ∃ t, t = rTell xs ⟨a0, a1⟩ := ⟨_, rfl⟩
  rw [← ht]
  change rBest xs ⟨a0, a1⟩ < _ at hlt
  unfold rTell at ht
  generalize rBest xs ⟨a0, a1⟩ = b at hc hlt ht
  have Ht := Lib.hid ht
  clear ht hok ha
  go_enter Try.func24, Try.ntmps24
  go_wp2_with fail
  refine hc.mono ?_
  rintro e w' ⟨rfl, hb⟩
  obtain ⟨p, rfl⟩ := below_grew hb
  clear hb hc
  by_cases hneg : b < 0
  · go_wp2
    refine bodyPost_ret (v := .int .i64 t) ?_ rfl ⟨rfl, ?_⟩
    · rw [Ht.out, if_pos hneg]
      simp [results, Try.f24, go_sem]
    · repeat' (first | with_reducible exact Below.refl _ _ | with_reducible assumption | with_reducible apply below_grews | with_reducible apply Below.drew | with_reducible apply Below.alloc | with_reducible apply Below.setCell | (simp [size_grew, -Nat.not_le, -Nat.not_lt] <;> omega))
  · obtain ⟨j, rfl⟩ : ∃ j : Nat, b = j := ⟨b.toNat, by omega⟩
    have hj : j < xs.length := by omega
    obtain ⟨bl, off, rfl, hb, h0, h1, h2, h3, h4, h5⟩ := hr.atE hj
    go_wp2
    refine bodyPost_ret (v := .int .i64 t) ?_ rfl ⟨rfl, ?_⟩
    · rw [Ht.out, if_neg (by omega), Int.toNat_natCast, nth_at xs hj]
      simp [results, Try.f24, go_sem]
    · repeat' (first | with_reducible exact Below.refl _ _ | with_reducible assumption | with_reducible apply below_grews | with_reducible apply Below.drew | with_reducible apply Below.alloc | with_reducible apply Below.setCell | (simp [size_grew, -Nat.not_le, -Nat.not_lt] <;> omega))
end Go.Proofs.Ytjibochjmmehcaa
