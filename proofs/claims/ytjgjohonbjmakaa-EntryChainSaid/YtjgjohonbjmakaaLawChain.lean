/- EntryChain: the walk. -/
import Derived.Test.YtjgjohonbjmakaaLawSorts
namespace Go.Proofs.Ytjgjohonbjmakaa
set_option linter.unusedSimpArgs false
set_option linter.unusedVariables false
open Go.RowKit
theorem above_not (x y : Ent) (h : eAbove x y = true) : eAbove y x = false := by
  unfold eAbove at *
  simp only [Bool.and_eq_true, decide_eq_true_eq] at h
  rw [decide_eq_false (by omega), Bool.false_and]
attribute [local irreducible] rMatch rMeet eCmp rCmp
attribute [local go_sem high] eql_25 neq_25 eql_24 neq_24 eql_27 neq_27 eql_32 neq_32 eql_29 neq_29 eql_34 neq_34 eql_41 neq_41 eql_44 neq_44
attribute [local go_sem ↓ high] yielded_undef
attribute [local go_sem] eqg_25 eqg_24 eqg_27 eqg_32 eqg_29 eqg_34 eqg_41 eqg_44 cell_grew frozen_grew size_grew grew_grew drewN_grew lt_addk size_setW Instr.field asAgg lt_gi_k lt_gi_kh lt_gi_k_k lt_gi_k_kh lt_gi_k_k_k lt_gi_k_k_kh lt_gi_i_k lt_gi_i_kh lt_gi_i_k_k lt_gi_i_k_kh lt_gi_i_k_k_k lt_gi_i_k_k_kh lt_gi_i_i_k lt_gi_i_i_kh lt_gi_i_i_k_k lt_gi_i_i_k_kh lt_gi_i_i_k_k_k lt_gi_i_i_k_k_kh lt_gi_i_i_i_k lt_gi_i_i_i_kh lt_gi_i_i_i_k_k lt_gi_i_i_i_k_kh lt_gi_i_i_i_k_k_k lt_gi_i_i_i_k_k_kh lt_gi_i_i_i_i_k lt_gi_i_i_i_i_kh lt_gi_i_i_i_i_k_k lt_gi_i_i_i_i_k_kh lt_gi_i_i_i_i_k_k_k lt_gi_i_i_i_i_k_k_kh lt_gi_i_i_i_i_i_k lt_gi_i_i_i_i_i_kh lt_gi_i_i_i_i_i_k_k lt_gi_i_i_i_i_i_k_kh lt_gi_i_i_i_i_i_k_k_k lt_gi_i_i_i_i_i_k_k_kh lt_gi_i_i_i_i_i_i_k lt_gi_i_i_i_i_i_i_kh lt_gi_i_i_i_i_i_i_k_k lt_gi_i_i_i_i_i_i_k_kh lt_gi_i_i_i_i_i_i_k_k_k lt_gi_i_i_i_i_i_i_k_k_kh lt_gi_i_i_i_i_i_i_i_k lt_gi_i_i_i_i_i_i_i_kh lt_gi_i_i_i_i_i_i_i_k_k lt_gi_i_i_i_i_i_i_i_k_kh lt_gi_i_i_i_i_i_i_i_k_k_k lt_gi_i_i_i_i_i_i_i_k_k_kh lt_gi_k_i lt_gi_k_ih lt_gi_k_i_k lt_gi_k_i_kh lt_gi_k_k_i lt_gi_k_k_ih lt_gi_k_k_i_k lt_gi_k_k_i_kh lt_gi_k_i_i lt_gi_k_i_ih lt_gi_k_i_i_k lt_gi_k_i_i_kh lt_gi_k_k_i_i lt_gi_k_k_i_ih lt_gi_k_k_i_i_k lt_gi_k_k_i_i_kh lt_gi_k_i_i_i lt_gi_k_i_i_ih lt_gi_k_i_i_i_k lt_gi_k_i_i_i_kh lt_gi_k_k_i_i_i lt_gi_k_k_i_i_ih lt_gi_k_k_i_i_i_k lt_gi_k_k_i_i_i_kh lt_gi_i_k_i lt_gi_i_k_ih lt_gi_i_k_i_k lt_gi_i_k_i_kh lt_gi_i_k_k_i lt_gi_i_k_k_ih lt_gi_i_k_k_i_k lt_gi_i_k_k_i_kh lt_gi_i_k_i_i lt_gi_i_k_i_ih lt_gi_i_k_i_i_k lt_gi_i_k_i_i_kh lt_gi_i_k_k_i_i lt_gi_i_k_k_i_ih lt_gi_i_k_k_i_i_k lt_gi_i_k_k_i_i_kh lt_gi_i_k_i_i_i lt_gi_i_k_i_i_ih lt_gi_i_k_i_i_i_k lt_gi_i_k_i_i_i_kh lt_gi_i_k_k_i_i_i lt_gi_i_k_k_i_i_ih lt_gi_i_k_k_i_i_i_k lt_gi_i_k_k_i_i_i_kh lt_gi_i_i_k_i lt_gi_i_i_k_ih lt_gi_i_i_k_i_k lt_gi_i_i_k_i_kh lt_gi_i_i_k_k_i lt_gi_i_i_k_k_ih lt_gi_i_i_k_k_i_k lt_gi_i_i_k_k_i_kh lt_gi_i_i_k_i_i lt_gi_i_i_k_i_ih lt_gi_i_i_k_i_i_k lt_gi_i_i_k_i_i_kh lt_gi_i_i_k_k_i_i lt_gi_i_i_k_k_i_ih lt_gi_i_i_k_k_i_i_k lt_gi_i_i_k_k_i_i_kh lt_gi_i_i_k_i_i_i lt_gi_i_i_k_i_i_ih lt_gi_i_i_k_i_i_i_k lt_gi_i_i_k_i_i_i_kh lt_gi_i_i_k_k_i_i_i lt_gi_i_i_k_k_i_i_ih lt_gi_i_i_k_k_i_i_i_k lt_gi_i_i_k_k_i_i_i_kh lt_gi_i_i_i_k_i lt_gi_i_i_i_k_ih lt_gi_i_i_i_k_i_k lt_gi_i_i_i_k_i_kh lt_gi_i_i_i_k_k_i lt_gi_i_i_i_k_k_ih lt_gi_i_i_i_k_k_i_k lt_gi_i_i_i_k_k_i_kh lt_gi_i_i_i_k_i_i lt_gi_i_i_i_k_i_ih lt_gi_i_i_i_k_i_i_k lt_gi_i_i_i_k_i_i_kh lt_gi_i_i_i_k_k_i_i lt_gi_i_i_i_k_k_i_ih lt_gi_i_i_i_k_k_i_i_k lt_gi_i_i_i_k_k_i_i_kh lt_gi_i_i_i_k_i_i_i lt_gi_i_i_i_k_i_i_ih lt_gi_i_i_i_k_i_i_i_k lt_gi_i_i_i_k_i_i_i_kh lt_gi_i_i_i_k_k_i_i_i lt_gi_i_i_i_k_k_i_i_ih lt_gi_i_i_i_k_k_i_i_i_k lt_gi_i_i_i_k_k_i_i_i_kh lt_gi_i_i_i_i_k_i lt_gi_i_i_i_i_k_ih lt_gi_i_i_i_i_k_i_k lt_gi_i_i_i_i_k_i_kh lt_gi_i_i_i_i_k_k_i lt_gi_i_i_i_i_k_k_ih lt_gi_i_i_i_i_k_k_i_k lt_gi_i_i_i_i_k_k_i_kh lt_gi_i_i_i_i_k_i_i lt_gi_i_i_i_i_k_i_ih lt_gi_i_i_i_i_k_i_i_k lt_gi_i_i_i_i_k_i_i_kh lt_gi_i_i_i_i_k_k_i_i lt_gi_i_i_i_i_k_k_i_ih lt_gi_i_i_i_i_k_k_i_i_k lt_gi_i_i_i_i_k_k_i_i_kh lt_gi_i_i_i_i_k_i_i_i lt_gi_i_i_i_i_k_i_i_ih lt_gi_i_i_i_i_k_i_i_i_k lt_gi_i_i_i_i_k_i_i_i_kh lt_gi_i_i_i_i_k_k_i_i_i lt_gi_i_i_i_i_k_k_i_i_ih lt_gi_i_i_i_i_k_k_i_i_i_k lt_gi_i_i_i_i_k_k_i_i_i_kh
attribute [local go_sem] same_self
set_option maxRecDepth 100000 in
set_option maxHeartbeats 8000000 in
theorem w_EntryChain (A : Option Addr) (c : Nat) (xs : List Ent) (x y : Ent) (w : World) (hcap : xs.length ≤ c) (hnil : A = none → c = 0) (hr : Reads encE 6 w A xs) (hoks : ∀ x ∈ xs, OkE x) (hox : OkE x) (hoy : OkE y) :
    Calls Try.prog 10 #[.slice A xs.length c, .agg #[.int .u64 x.w.v.x, .int .u64 x.w.v.y, .int .u64 x.w.m.x, .int .u64 x.w.m.y, .int .i64 x.len, .int .i64 x.act], .agg #[.int .u64 y.w.v.x, .int .u64 y.w.v.y, .int .u64 y.w.m.x, .int .u64 y.w.m.y, .int .i64 y.len, .int .i64 y.act]] w fun e w' => e = .returned (.bool true) ∧ Below w.heap.size w w' := by
  have hlen := hr.1
  clear hoks hox hoy
  obtain ⟨⟨⟨xa, xb⟩, xc, xd⟩, xl, xk⟩ := x
  obtain ⟨⟨⟨ya, yb⟩, yc, yd⟩, yl, yk⟩ := y
  dsimp only
  have hab := above_not ⟨⟨⟨xa, xb⟩, xc, xd⟩, xl, xk⟩ ⟨⟨⟨ya, yb⟩, yc, yd⟩, yl, yk⟩
  by_cases hmost : (40 : Int) < xs.length
  · clear hab
    go_enter Try.func10, Try.ntmps10
    go_wp2_with (first | (go_at_call 13; refine (c_awake5 _).mono ?_; rintro e w' ⟨rfl, hb⟩; obtain ⟨p, rfl⟩ := below_grew hb; clear hb) | (go_at_call 20; refine (c_Above _ _ _ _ _ _ _ _ _ _ _ _ _).mono ?_; rintro e w' ⟨rfl, hb⟩; obtain ⟨p, rfl⟩ := below_grew hb; clear hb) | (refine wp_region_mix (id := 8) 14 [(0, true), (1, true), (2, true), (3, true), (4, true), (5, true), (6, true), (7, true), (8, true), (9, true), (10, true), (11, true), (12, true), (13, true)] (by kernel_rfl) (by kernel_rfl) ?_) | (refine mix_quiet rfl (fun K hK => ?_); go_simp) | (apply Exists.intro; refine ⟨fun (_ : Ext) => ?_, ?_⟩; · (first | (go_at_call 13; exact calls_later (c_awake5 _)) | (go_at_call 20; exact calls_later (c_Above _ _ _ _ _ _ _ _ _ _ _ _ _)))) | (refine mix_end (fun p => ?_); simp only [List.drop_succ_cons, List.drop_zero]))
    refine bodyPost_ret (v := .bool true) ?_ rfl ⟨rfl, ?_⟩
    · simp [results, Try.f10, go_sem]
    · repeat' (first | with_reducible exact Below.refl _ _ | with_reducible assumption | with_reducible apply below_grews | with_reducible apply Below.drew | with_reducible apply Below.alloc | with_reducible apply Below.setCell | (simp [size_grew, -Nat.not_le, -Nat.not_lt] <;> omega))
  have hm : xs.length ≤ 40 := by omega
  have H2 := fun W h => c_eSort A c xs W hnil h (by omega)
  have H3 := fun B d W hn h => c_eSort B d (sortE xs) W hn h (by rw [sortE_length]; omega)
  have hzl := sortE_length xs
  simp only [hzl, sortE_sortE] at H3
  generalize sortE xs = zs at H2 H3 hzl
  have K2 := Lib.hid H2
  have K3 := Lib.hid H3
  have Hzl := Lib.hid hzl
  have Hab := Lib.hid hab
  clear H2 H3 hzl hab
  go_enter Try.func10, Try.ntmps10
  go_wp2_with (first | (go_at_call 13; refine (c_awake5 _).mono ?_; rintro e w' ⟨rfl, hb⟩; obtain ⟨p, rfl⟩ := below_grew hb; clear hb) | (go_at_call 20; refine (c_Above _ _ _ _ _ _ _ _ _ _ _ _ _).mono ?_; rintro e w' ⟨rfl, hb⟩; obtain ⟨p, rfl⟩ := below_grew hb; clear hb) | (refine wp_region_mix (id := 8) 14 [(0, true), (1, true), (2, true), (3, true), (4, true), (5, true), (6, true), (7, true), (8, true), (9, true), (10, true), (11, true), (12, true), (13, true)] (by kernel_rfl) (by kernel_rfl) ?_) | (refine mix_quiet rfl (fun K hK => ?_); go_simp) | (apply Exists.intro; refine ⟨fun (_ : Ext) => ?_, ?_⟩; · (first | (go_at_call 13; exact calls_later (c_awake5 _)) | (go_at_call 20; exact calls_later (c_Above _ _ _ _ _ _ _ _ _ _ _ _ _)))) | (refine mix_end (fun p => ?_); simp only [List.drop_succ_cons, List.drop_zero]))
  refine (K2.out _ ?r2).mono ?_
  case r2 => exact hr.below (by repeat' (first | with_reducible exact Below.refl _ _ | with_reducible assumption | with_reducible apply below_grews | with_reducible apply Below.drew | with_reducible apply Below.alloc | with_reducible apply Below.setCell | (simp [size_grew, -Nat.not_le, -Nat.not_lt] <;> omega)))
  rintro e w' ⟨v, rfl, hown, hb⟩
  obtain ⟨p2, rfl⟩ := below_grew hb
  obtain ⟨B2, d2, rfl, _, _⟩ := own_form hown
  have hn2 := own_nil hown
  have R2 := Lib.hid (Reads.of_own (enc := encE) (k := 6) (e := 29) (n := xs.length) (c := d2) (xs := zs) (fun _ => rfl) (by rw [Hzl.out]; exact hown)).2
  clear hb hown
  go_wp2_with (first | (go_at_call 13; refine (c_awake5 _).mono ?_; rintro e w' ⟨rfl, hb⟩; obtain ⟨p, rfl⟩ := below_grew hb; clear hb) | (go_at_call 20; refine (c_Above _ _ _ _ _ _ _ _ _ _ _ _ _).mono ?_; rintro e w' ⟨rfl, hb⟩; obtain ⟨p, rfl⟩ := below_grew hb; clear hb) | (refine wp_region_mix (id := 8) 14 [(0, true), (1, true), (2, true), (3, true), (4, true), (5, true), (6, true), (7, true), (8, true), (9, true), (10, true), (11, true), (12, true), (13, true)] (by kernel_rfl) (by kernel_rfl) ?_) | (refine mix_quiet rfl (fun K hK => ?_); go_simp) | (apply Exists.intro; refine ⟨fun (_ : Ext) => ?_, ?_⟩; · (first | (go_at_call 13; exact calls_later (c_awake5 _)) | (go_at_call 20; exact calls_later (c_Above _ _ _ _ _ _ _ _ _ _ _ _ _)))) | (refine mix_end (fun p => ?_); simp only [List.drop_succ_cons, List.drop_zero]))
  refine (K3.out _ _ _ hn2 ?r3).mono ?_
  case r3 => have h := R2.out; first | exact h | simpa only [grew_grew, Array.append_assoc] using h
  rintro e w' ⟨v, rfl, hown, hb⟩
  obtain ⟨p3, rfl⟩ := below_grew hb
  obtain ⟨B3, d3, rfl, _, _⟩ := own_form hown
  have R3 := Lib.hid (Reads.of_own (enc := encE) (k := 6) (e := 29) (n := xs.length) (c := d3) (xs := zs) (fun _ => rfl) (by rw [Hzl.out]; exact hown)).2
  clear hb hown
  go_wp2_with (first | (go_at_call 13; refine (c_awake5 _).mono ?_; rintro e w' ⟨rfl, hb⟩; obtain ⟨p, rfl⟩ := below_grew hb; clear hb) | (go_at_call 20; refine (c_Above _ _ _ _ _ _ _ _ _ _ _ _ _).mono ?_; rintro e w' ⟨rfl, hb⟩; obtain ⟨p, rfl⟩ := below_grew hb; clear hb) | (refine wp_region_mix (id := 8) 14 [(0, true), (1, true), (2, true), (3, true), (4, true), (5, true), (6, true), (7, true), (8, true), (9, true), (10, true), (11, true), (12, true), (13, true)] (by kernel_rfl) (by kernel_rfl) ?_) | (refine mix_quiet rfl (fun K hK => ?_); go_simp) | (apply Exists.intro; refine ⟨fun (_ : Ext) => ?_, ?_⟩; · (first | (go_at_call 13; exact calls_later (c_awake5 _)) | (go_at_call 20; exact calls_later (c_Above _ _ _ _ _ _ _ _ _ _ _ _ _)))) | (refine mix_end (fun p => ?_); simp only [List.drop_succ_cons, List.drop_zero]))
  have HB : Below w.heap.size w (grew ((w.alloc (.cells #[.int .u64 xa, .int .u64 xb, .int .u64 xc, .int .u64 xd, .int .i64 xl, .int .i64 xk] 29)).alloc (.cells #[.int .u64 ya, .int .u64 yb, .int .u64 yc, .int .u64 yd, .int .i64 yl, .int .i64 yk] 29)) ⟨p3.d, p2.os ++ p3.os⟩) := by repeat' (first | with_reducible exact Below.refl _ _ | with_reducible assumption | with_reducible apply below_grews | with_reducible apply Below.drew | with_reducible apply Below.alloc | with_reducible apply Below.setCell | (simp [size_grew, -Nat.not_le, -Nat.not_lt] <;> omega))
  have G2 : Reads encE 6 (grew ((w.alloc (.cells #[.int .u64 xa, .int .u64 xb, .int .u64 xc, .int .u64 xd, .int .i64 xl, .int .i64 xk] 29)).alloc (.cells #[.int .u64 ya, .int .u64 yb, .int .u64 yc, .int .u64 yd, .int .i64 yl, .int .i64 yk] 29)) ⟨p3.d, p2.os ++ p3.os⟩) B2 zs := by have h := R2.out.grew p3; simpa only [grew_grew, Array.append_assoc] using h
  have G3 : Reads encE 6 (grew ((w.alloc (.cells #[.int .u64 xa, .int .u64 xb, .int .u64 xc, .int .u64 xd, .int .i64 xl, .int .i64 xk] 29)).alloc (.cells #[.int .u64 ya, .int .u64 yb, .int .u64 yc, .int .u64 yd, .int .i64 yl, .int .i64 yk] 29)) ⟨p3.d, p2.os ++ p3.os⟩) B3 zs := by have h := R3.out; simpa only [grew_grew, Array.append_assoc] using h
  have RX : Reads encE 6 (grew ((w.alloc (.cells #[.int .u64 xa, .int .u64 xb, .int .u64 xc, .int .u64 xd, .int .i64 xl, .int .i64 xk] 29)).alloc (.cells #[.int .u64 ya, .int .u64 yb, .int .u64 yc, .int .u64 yd, .int .i64 yl, .int .i64 yk] 29)) ⟨p3.d, p2.os ++ p3.os⟩) (some ⟨w.heap.size, 0, none⟩) [⟨⟨⟨xa, xb⟩, xc, xd⟩, xl, xk⟩] := ((Reads.made (enc := encE) (k := 6) (fun _ => rfl) w [⟨⟨⟨xa, xb⟩, xc, xd⟩, xl, xk⟩] _ (by simp) rfl).alloc _).grew _
  have RY : Reads encE 6 (grew ((w.alloc (.cells #[.int .u64 xa, .int .u64 xb, .int .u64 xc, .int .u64 xd, .int .i64 xl, .int .i64 xk] 29)).alloc (.cells #[.int .u64 ya, .int .u64 yb, .int .u64 yc, .int .u64 yd, .int .i64 yl, .int .i64 yk] 29)) ⟨p3.d, p2.os ++ p3.os⟩) (some ⟨w.heap.size + 1, 0, none⟩) [⟨⟨⟨ya, yb⟩, yc, yd⟩, yl, yk⟩] := by
   refine (Reads.made' (enc := encE) (k := 6) (fun _ => rfl) [⟨⟨⟨ya, yb⟩, yc, yd⟩, yl, yk⟩] (by simp) rfl ?szy).grew _
   first | rfl | simp
  obtain ⟨bx, ox, ex, hx, x0, x1, x2, x3, x4, x5⟩ := RX.atE (i := 0) (by simp)
  obtain ⟨by_, oy, ey, hy, y0, y1, y2, y3, y4, y5⟩ := RY.atE (i := 0) (by simp)
  injection ex with ex; injection ex with ex1 ex2
  injection ey with ey; injection ey with ey1 ey2
  subst ex1 ex2 ey1 ey2
  simp only [Nat.zero_mul, Nat.zero_add, List.getElem_cons_zero, Nat.add_zero] at x0 x1 x2 x3 x4 x5 y0 y1 y2 y3 y4 y5
  clear R2 R3 hr K2 K3 RX RY
  generalize grew ((w.alloc (.cells #[.int .u64 xa, .int .u64 xb, .int .u64 xc, .int .u64 xd, .int .i64 xl, .int .i64 xk] 29)).alloc (.cells #[.int .u64 ya, .int .u64 yb, .int .u64 yc, .int .u64 yd, .int .i64 yl, .int .i64 yk] 29)) ⟨p3.d, p2.os ++ p3.os⟩ = W at *
  go_loopw [20] (fun v20 wr => ∃ k : Nat, k ≤ xs.length ∧ v20 = .int .i64 k ∧ ∃ q : Ext, wr = grew W q) (fun i _ => xs.length - (intOf i).toNat)
  case atStart => exact ⟨0, Nat.zero_le _, rfl, ⟨W.drawn, #[]⟩, by first | (simp [grew]; done) | (simp [grew]; rfl)⟩
  case round =>
    obtain ⟨k, hk, rfl, q, rfl⟩ := hrel
    by_cases hlt : k < xs.length
    · have hltz : k < zs.length := by rw [Hzl.out]; exact hlt
      obtain ⟨b3, o3, rfl, hb3, f0, f1, f2, f3, f4, f5⟩ := G2.atE hltz
      obtain ⟨b4, o4, rfl, hb4, g0, g1, g2, g3, g4, g5⟩ := G3.atE hltz
      clear G2 G3 x0 x1 x2 x3 x4 x5 y0 y1 y2 y3 y4 y5
      go_wp2_with (first | (go_at_call 13; refine (c_awake5 _).mono ?_; rintro e w' ⟨rfl, hb⟩; obtain ⟨p, rfl⟩ := below_grew hb; clear hb) | (go_at_call 20; refine (c_Above _ _ _ _ _ _ _ _ _ _ _ _ _).mono ?_; rintro e w' ⟨rfl, hb⟩; obtain ⟨p, rfl⟩ := below_grew hb; clear hb) | (refine wp_region_mix (id := 8) 14 [(0, true), (1, true), (2, true), (3, true), (4, true), (5, true), (6, true), (7, true), (8, true), (9, true), (10, true), (11, true), (12, true), (13, true)] (by kernel_rfl) (by kernel_rfl) ?_) | (refine mix_quiet rfl (fun K hK => ?_); go_simp) | (apply Exists.intro; refine ⟨fun (_ : Ext) => ?_, ?_⟩; · (first | (go_at_call 13; exact calls_later (c_awake5 _)) | (go_at_call 20; exact calls_later (c_Above _ _ _ _ _ _ _ _ _ _ _ _ _)))) | (refine mix_end (fun p => ?_); simp only [List.drop_succ_cons, List.drop_zero]))
      go_roundw
      case rel => exact ⟨k + 1, by omega, by go_num, below_grew (by repeat' (first | with_reducible exact Below.refl _ _ | with_reducible assumption | with_reducible apply below_grews | with_reducible apply Below.drew | with_reducible apply Below.alloc | with_reducible apply Below.setCell | (simp [size_grew, -Nat.not_le, -Nat.not_lt] <;> omega)))⟩
      case measure => first | (simp [intOf]; done) | (simp [intOf]; omega)
    · obtain rfl : k = xs.length := by omega
      clear G2 G3
      have hab := Hab.out
      clear Hab
      cases hxy : eAbove ⟨⟨⟨xa, xb⟩, xc, xd⟩, xl, xk⟩ ⟨⟨⟨ya, yb⟩, yc, yd⟩, yl, yk⟩ with
      | false =>
        clear hab
        go_wp2_with (first | (go_at_call 13; refine (c_awake5 _).mono ?_; rintro e w' ⟨rfl, hb⟩; obtain ⟨p, rfl⟩ := below_grew hb; clear hb) | (go_at_call 20; refine (c_Above _ _ _ _ _ _ _ _ _ _ _ _ _).mono ?_; rintro e w' ⟨rfl, hb⟩; obtain ⟨p, rfl⟩ := below_grew hb; clear hb) | (refine wp_region_mix (id := 8) 14 [(0, true), (1, true), (2, true), (3, true), (4, true), (5, true), (6, true), (7, true), (8, true), (9, true), (10, true), (11, true), (12, true), (13, true)] (by kernel_rfl) (by kernel_rfl) ?_) | (refine mix_quiet rfl (fun K hK => ?_); go_simp) | (apply Exists.intro; refine ⟨fun (_ : Ext) => ?_, ?_⟩; · (first | (go_at_call 13; exact calls_later (c_awake5 _)) | (go_at_call 20; exact calls_later (c_Above _ _ _ _ _ _ _ _ _ _ _ _ _)))) | (refine mix_end (fun p => ?_); simp only [List.drop_succ_cons, List.drop_zero]))
        refine bodyPost_ret (v := .bool true) ?_ rfl ⟨rfl, ?_⟩
        · simp [results, Try.f10, go_sem]
        · repeat' (first | with_reducible exact Below.refl _ _ | with_reducible assumption | with_reducible apply below_grews | with_reducible apply Below.drew | with_reducible apply Below.alloc | with_reducible apply Below.setCell | (simp [size_grew, -Nat.not_le, -Nat.not_lt] <;> omega))
      | true =>
        have hyx := hab hxy
        clear hab
        go_wp2_with (first | (go_at_call 13; refine (c_awake5 _).mono ?_; rintro e w' ⟨rfl, hb⟩; obtain ⟨p, rfl⟩ := below_grew hb; clear hb) | (go_at_call 20; refine (c_Above _ _ _ _ _ _ _ _ _ _ _ _ _).mono ?_; rintro e w' ⟨rfl, hb⟩; obtain ⟨p, rfl⟩ := below_grew hb; clear hb) | (refine wp_region_mix (id := 8) 14 [(0, true), (1, true), (2, true), (3, true), (4, true), (5, true), (6, true), (7, true), (8, true), (9, true), (10, true), (11, true), (12, true), (13, true)] (by kernel_rfl) (by kernel_rfl) ?_) | (refine mix_quiet rfl (fun K hK => ?_); go_simp) | (apply Exists.intro; refine ⟨fun (_ : Ext) => ?_, ?_⟩; · (first | (go_at_call 13; exact calls_later (c_awake5 _)) | (go_at_call 20; exact calls_later (c_Above _ _ _ _ _ _ _ _ _ _ _ _ _)))) | (refine mix_end (fun p => ?_); simp only [List.drop_succ_cons, List.drop_zero]))
        refine bodyPost_ret (v := .bool true) ?_ rfl ⟨rfl, ?_⟩
        · simp [results, Try.f10, go_sem]
        · repeat' (first | with_reducible exact Below.refl _ _ | with_reducible assumption | with_reducible apply below_grews | with_reducible apply Below.drew | with_reducible apply Below.alloc | with_reducible apply Below.setCell | (simp [size_grew, -Nat.not_le, -Nat.not_lt] <;> omega))
end Go.Proofs.Ytjgjohonbjmakaa
