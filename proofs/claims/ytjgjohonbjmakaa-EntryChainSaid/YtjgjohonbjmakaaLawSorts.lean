/- EntrySorts: the walk. -/
import Derived.Test.YtjgjohonbjmakaaWalkS
import Derived.Test.YtjgjohonbjmakaaWalkT
import Derived.Test.YtjgjohonbjmakaaWalkG
import Derived.Test.YtjgjohonbjmakaaWalkF
import Derived.Test.YtjgjohonbjmakaaWalkR5
import Derived.Test.YtjgjohonbjmakaaOpen
namespace Go.Proofs.Ytjgjohonbjmakaa
set_option linter.unusedSimpArgs false
set_option linter.unusedVariables false
open Go.RowKit
theorem sorted_ordered (xs : List Ent) : ordered (sortE xs) = true := by
  unfold ordered
  rw [ordTo_iff _ _ (Nat.le_refl _)]
  intro k hk i hi
  have hp := sortE_pairwise xs
  rw [List.pairwise_iff_getElem] at hp
  have h := hp i k (by omega) hk hi
  rw [nth_at _ hk, nth_at _ (by omega : i < (sortE xs).length)]
  unfold eLe at h
  simp only [decide_eq_true_eq] at h
  have hl : (sortE xs)[k].len ≤ (sortE xs)[i].len := by
    rw [eCmp_lex] at h
    unfold lexKey at h
    rcases h with h | ⟨h, _⟩ <;> omega
  unfold eAbove
  rw [decide_eq_false (by omega), Bool.false_and]
theorem same_self {α : Type} [DecidableEq α] (a : α) : same a a = true := by simp [same]
attribute [local irreducible] rMatch rMeet eCmp rCmp
attribute [local go_sem high] eql_25 neq_25 eql_24 neq_24 eql_27 neq_27 eql_32 neq_32 eql_29 neq_29 eql_34 neq_34 eql_41 neq_41 eql_44 neq_44
attribute [local go_sem ↓ high] yielded_undef
attribute [local go_sem] eqg_25 eqg_24 eqg_27 eqg_32 eqg_29 eqg_34 eqg_41 eqg_44 cell_grew frozen_grew size_grew grew_grew drewN_grew lt_addk size_setW Instr.field asAgg lt_gi_k lt_gi_kh lt_gi_k_k lt_gi_k_kh lt_gi_k_k_k lt_gi_k_k_kh lt_gi_i_k lt_gi_i_kh lt_gi_i_k_k lt_gi_i_k_kh lt_gi_i_k_k_k lt_gi_i_k_k_kh lt_gi_i_i_k lt_gi_i_i_kh lt_gi_i_i_k_k lt_gi_i_i_k_kh lt_gi_i_i_k_k_k lt_gi_i_i_k_k_kh lt_gi_i_i_i_k lt_gi_i_i_i_kh lt_gi_i_i_i_k_k lt_gi_i_i_i_k_kh lt_gi_i_i_i_k_k_k lt_gi_i_i_i_k_k_kh lt_gi_i_i_i_i_k lt_gi_i_i_i_i_kh lt_gi_i_i_i_i_k_k lt_gi_i_i_i_i_k_kh lt_gi_i_i_i_i_k_k_k lt_gi_i_i_i_i_k_k_kh lt_gi_i_i_i_i_i_k lt_gi_i_i_i_i_i_kh lt_gi_i_i_i_i_i_k_k lt_gi_i_i_i_i_i_k_kh lt_gi_i_i_i_i_i_k_k_k lt_gi_i_i_i_i_i_k_k_kh lt_gi_i_i_i_i_i_i_k lt_gi_i_i_i_i_i_i_kh lt_gi_i_i_i_i_i_i_k_k lt_gi_i_i_i_i_i_i_k_kh lt_gi_i_i_i_i_i_i_k_k_k lt_gi_i_i_i_i_i_i_k_k_kh lt_gi_i_i_i_i_i_i_i_k lt_gi_i_i_i_i_i_i_i_kh lt_gi_i_i_i_i_i_i_i_k_k lt_gi_i_i_i_i_i_i_i_k_kh lt_gi_i_i_i_i_i_i_i_k_k_k lt_gi_i_i_i_i_i_i_i_k_k_kh lt_gi_k_i lt_gi_k_ih lt_gi_k_i_k lt_gi_k_i_kh lt_gi_k_k_i lt_gi_k_k_ih lt_gi_k_k_i_k lt_gi_k_k_i_kh lt_gi_k_i_i lt_gi_k_i_ih lt_gi_k_i_i_k lt_gi_k_i_i_kh lt_gi_k_k_i_i lt_gi_k_k_i_ih lt_gi_k_k_i_i_k lt_gi_k_k_i_i_kh lt_gi_k_i_i_i lt_gi_k_i_i_ih lt_gi_k_i_i_i_k lt_gi_k_i_i_i_kh lt_gi_k_k_i_i_i lt_gi_k_k_i_i_ih lt_gi_k_k_i_i_i_k lt_gi_k_k_i_i_i_kh lt_gi_i_k_i lt_gi_i_k_ih lt_gi_i_k_i_k lt_gi_i_k_i_kh lt_gi_i_k_k_i lt_gi_i_k_k_ih lt_gi_i_k_k_i_k lt_gi_i_k_k_i_kh lt_gi_i_k_i_i lt_gi_i_k_i_ih lt_gi_i_k_i_i_k lt_gi_i_k_i_i_kh lt_gi_i_k_k_i_i lt_gi_i_k_k_i_ih lt_gi_i_k_k_i_i_k lt_gi_i_k_k_i_i_kh lt_gi_i_k_i_i_i lt_gi_i_k_i_i_ih lt_gi_i_k_i_i_i_k lt_gi_i_k_i_i_i_kh lt_gi_i_k_k_i_i_i lt_gi_i_k_k_i_i_ih lt_gi_i_k_k_i_i_i_k lt_gi_i_k_k_i_i_i_kh lt_gi_i_i_k_i lt_gi_i_i_k_ih lt_gi_i_i_k_i_k lt_gi_i_i_k_i_kh lt_gi_i_i_k_k_i lt_gi_i_i_k_k_ih lt_gi_i_i_k_k_i_k lt_gi_i_i_k_k_i_kh lt_gi_i_i_k_i_i lt_gi_i_i_k_i_ih lt_gi_i_i_k_i_i_k lt_gi_i_i_k_i_i_kh lt_gi_i_i_k_k_i_i lt_gi_i_i_k_k_i_ih lt_gi_i_i_k_k_i_i_k lt_gi_i_i_k_k_i_i_kh lt_gi_i_i_k_i_i_i lt_gi_i_i_k_i_i_ih lt_gi_i_i_k_i_i_i_k lt_gi_i_i_k_i_i_i_kh lt_gi_i_i_k_k_i_i_i lt_gi_i_i_k_k_i_i_ih lt_gi_i_i_k_k_i_i_i_k lt_gi_i_i_k_k_i_i_i_kh lt_gi_i_i_i_k_i lt_gi_i_i_i_k_ih lt_gi_i_i_i_k_i_k lt_gi_i_i_i_k_i_kh lt_gi_i_i_i_k_k_i lt_gi_i_i_i_k_k_ih lt_gi_i_i_i_k_k_i_k lt_gi_i_i_i_k_k_i_kh lt_gi_i_i_i_k_i_i lt_gi_i_i_i_k_i_ih lt_gi_i_i_i_k_i_i_k lt_gi_i_i_i_k_i_i_kh lt_gi_i_i_i_k_k_i_i lt_gi_i_i_i_k_k_i_ih lt_gi_i_i_i_k_k_i_i_k lt_gi_i_i_i_k_k_i_i_kh lt_gi_i_i_i_k_i_i_i lt_gi_i_i_i_k_i_i_ih lt_gi_i_i_i_k_i_i_i_k lt_gi_i_i_i_k_i_i_i_kh lt_gi_i_i_i_k_k_i_i_i lt_gi_i_i_i_k_k_i_i_ih lt_gi_i_i_i_k_k_i_i_i_k lt_gi_i_i_i_k_k_i_i_i_kh lt_gi_i_i_i_i_k_i lt_gi_i_i_i_i_k_ih lt_gi_i_i_i_i_k_i_k lt_gi_i_i_i_i_k_i_kh lt_gi_i_i_i_i_k_k_i lt_gi_i_i_i_i_k_k_ih lt_gi_i_i_i_i_k_k_i_k lt_gi_i_i_i_i_k_k_i_kh lt_gi_i_i_i_i_k_i_i lt_gi_i_i_i_i_k_i_ih lt_gi_i_i_i_i_k_i_i_k lt_gi_i_i_i_i_k_i_i_kh lt_gi_i_i_i_i_k_k_i_i lt_gi_i_i_i_i_k_k_i_ih lt_gi_i_i_i_i_k_k_i_i_k lt_gi_i_i_i_i_k_k_i_i_kh lt_gi_i_i_i_i_k_i_i_i lt_gi_i_i_i_i_k_i_i_ih lt_gi_i_i_i_i_k_i_i_i_k lt_gi_i_i_i_i_k_i_i_i_kh lt_gi_i_i_i_i_k_k_i_i_i lt_gi_i_i_i_i_k_k_i_i_ih lt_gi_i_i_i_i_k_k_i_i_i_k lt_gi_i_i_i_i_k_k_i_i_i_kh
attribute [local go_sem] same_self
set_option maxRecDepth 100000 in
set_option maxHeartbeats 8000000 in
theorem w_EntrySorts (A : Option Addr) (c : Nat) (xs : List Ent) (w : World) (hcap : xs.length ≤ c) (hnil : A = none → c = 0) (hr : Reads encE 6 w A xs) (hoks : ∀ x ∈ xs, OkE x) :
    Calls Try.prog 8 #[.slice A xs.length c] w fun e w' => e = .returned (.bool true) ∧ Below w.heap.size w w' := by
  have hlen := hr.1
  by_cases hmost : (40 : Int) < xs.length
  · go_enter Try.func8, Try.ntmps8
    go_wp2_with (first | (go_at_call 12; refine (c_law5One _ _ _ _ _ _ _).mono ?_; rintro e w' ⟨rfl, hb⟩; obtain ⟨p, rfl⟩ := below_grew hb; clear hb) | (go_at_call 13; refine (c_awake5 _).mono ?_; rintro e w' ⟨rfl, hb⟩; obtain ⟨p, rfl⟩ := below_grew hb; clear hb) | (refine wp_region_mix (id := 11) 20 [(0, true), (1, true), (2, true), (3, true), (4, true), (5, true), (6, true), (7, true), (8, true), (9, true), (10, true), (11, true), (12, true), (13, true), (14, true), (15, true), (16, true), (17, true), (18, true), (19, true)] (by kernel_rfl) (by kernel_rfl) ?_) | (refine mix_quiet rfl (fun K hK => ?_); go_simp) | (apply Exists.intro; refine ⟨fun (_ : Ext) => ?_, ?_⟩; · (first | (go_at_call 12; exact calls_later (c_law5One _ _ _ _ _ _ _)) | (go_at_call 13; exact calls_later (c_awake5 _)))) | (refine mix_end (fun p => ?_); simp only [List.drop_succ_cons, List.drop_zero]))
    refine bodyPost_ret (v := .bool true) ?_ rfl ⟨rfl, ?_⟩
    · simp [results, Try.f8, go_sem]
    · repeat' (first | with_reducible exact Below.refl _ _ | with_reducible assumption | with_reducible apply below_grews | with_reducible apply Below.drew | with_reducible apply Below.alloc | with_reducible apply Below.setCell | (simp [size_grew, -Nat.not_le, -Nat.not_lt] <;> omega))
  have hm : xs.length ≤ 40 := by omega
  have hw : ∀ x ∈ xs, x.w.ok := fun x hx => (hoks x hx).1
  have hw2 : ∀ x ∈ sortE xs, x.w.ok := fun x hx => hw x (sortE_mem.1 hx)
  have H1 := fun W h => c_law5Of A c xs W h (by omega)
  have H2 := fun W h => c_eSort A c xs W hnil h (by omega)
  have H3 := fun B d W h => c_law5Of B d (sortE xs) W h (by rw [sortE_length]; omega)
  have H4 := fun B d W h => c_rSort B d xs hw W h hm
  have H5 := fun B d W h => c_rOrdered B d (sortE xs) hw2 W h
  rw [rOrdered_ordered _ hw2, sorted_ordered] at H5
  have hzl := sortE_length xs
  simp only [hzl] at H3 H5
  generalize sortE xs = zs at H2 H3 H4 H5 hzl
  have K1 := Lib.hid H1
  have K2 := Lib.hid H2
  have K3 := Lib.hid H3
  have K4 := Lib.hid H4
  have K5 := Lib.hid H5
  have Hzl := Lib.hid hzl
  clear H1 H2 H3 H4 H5 hw hw2 hzl hoks
  go_enter Try.func8, Try.ntmps8
  go_wp2_with (first | (go_at_call 12; refine (c_law5One _ _ _ _ _ _ _).mono ?_; rintro e w' ⟨rfl, hb⟩; obtain ⟨p, rfl⟩ := below_grew hb; clear hb) | (go_at_call 13; refine (c_awake5 _).mono ?_; rintro e w' ⟨rfl, hb⟩; obtain ⟨p, rfl⟩ := below_grew hb; clear hb) | (refine wp_region_mix (id := 11) 20 [(0, true), (1, true), (2, true), (3, true), (4, true), (5, true), (6, true), (7, true), (8, true), (9, true), (10, true), (11, true), (12, true), (13, true), (14, true), (15, true), (16, true), (17, true), (18, true), (19, true)] (by kernel_rfl) (by kernel_rfl) ?_) | (refine mix_quiet rfl (fun K hK => ?_); go_simp) | (apply Exists.intro; refine ⟨fun (_ : Ext) => ?_, ?_⟩; · (first | (go_at_call 12; exact calls_later (c_law5One _ _ _ _ _ _ _)) | (go_at_call 13; exact calls_later (c_awake5 _)))) | (refine mix_end (fun p => ?_); simp only [List.drop_succ_cons, List.drop_zero]))
  refine (K1.out _ ?r1).mono ?_
  case r1 => exact hr.below (by repeat' (first | with_reducible exact Below.refl _ _ | with_reducible assumption | with_reducible apply below_grews | with_reducible apply Below.drew | with_reducible apply Below.alloc | with_reducible apply Below.setCell | (simp [size_grew, -Nat.not_le, -Nat.not_lt] <;> omega)))
  rintro e w' ⟨v, rfl, hown, hb⟩
  obtain ⟨p1, rfl⟩ := below_grew hb
  obtain ⟨B1, d1, rfl, _, _⟩ := own_form hown
  have R1 := Lib.hid (Reads.of_own (enc := encE) (k := 6) (fun _ => rfl) hown).2
  clear hb hown
  go_wp2_with (first | (go_at_call 12; refine (c_law5One _ _ _ _ _ _ _).mono ?_; rintro e w' ⟨rfl, hb⟩; obtain ⟨p, rfl⟩ := below_grew hb; clear hb) | (go_at_call 13; refine (c_awake5 _).mono ?_; rintro e w' ⟨rfl, hb⟩; obtain ⟨p, rfl⟩ := below_grew hb; clear hb) | (refine wp_region_mix (id := 11) 20 [(0, true), (1, true), (2, true), (3, true), (4, true), (5, true), (6, true), (7, true), (8, true), (9, true), (10, true), (11, true), (12, true), (13, true), (14, true), (15, true), (16, true), (17, true), (18, true), (19, true)] (by kernel_rfl) (by kernel_rfl) ?_) | (refine mix_quiet rfl (fun K hK => ?_); go_simp) | (apply Exists.intro; refine ⟨fun (_ : Ext) => ?_, ?_⟩; · (first | (go_at_call 12; exact calls_later (c_law5One _ _ _ _ _ _ _)) | (go_at_call 13; exact calls_later (c_awake5 _)))) | (refine mix_end (fun p => ?_); simp only [List.drop_succ_cons, List.drop_zero]))
  refine (K2.out _ ?r2).mono ?_
  case r2 => exact hr.below (by repeat' (first | with_reducible exact Below.refl _ _ | with_reducible assumption | with_reducible apply below_grews | with_reducible apply Below.drew | with_reducible apply Below.alloc | with_reducible apply Below.setCell | (simp [size_grew, -Nat.not_le, -Nat.not_lt] <;> omega)))
  rintro e w' ⟨v, rfl, hown, hb⟩
  obtain ⟨p2, rfl⟩ := below_grew hb
  obtain ⟨B2, d2, rfl, _, _⟩ := own_form hown
  have R2 := Lib.hid (Reads.of_own (enc := encE) (k := 6) (e := 29) (n := xs.length) (c := d2) (xs := zs) (fun _ => rfl) (by rw [Hzl.out]; exact hown)).2
  clear hb hown
  go_wp2_with (first | (go_at_call 12; refine (c_law5One _ _ _ _ _ _ _).mono ?_; rintro e w' ⟨rfl, hb⟩; obtain ⟨p, rfl⟩ := below_grew hb; clear hb) | (go_at_call 13; refine (c_awake5 _).mono ?_; rintro e w' ⟨rfl, hb⟩; obtain ⟨p, rfl⟩ := below_grew hb; clear hb) | (refine wp_region_mix (id := 11) 20 [(0, true), (1, true), (2, true), (3, true), (4, true), (5, true), (6, true), (7, true), (8, true), (9, true), (10, true), (11, true), (12, true), (13, true), (14, true), (15, true), (16, true), (17, true), (18, true), (19, true)] (by kernel_rfl) (by kernel_rfl) ?_) | (refine mix_quiet rfl (fun K hK => ?_); go_simp) | (apply Exists.intro; refine ⟨fun (_ : Ext) => ?_, ?_⟩; · (first | (go_at_call 12; exact calls_later (c_law5One _ _ _ _ _ _ _)) | (go_at_call 13; exact calls_later (c_awake5 _)))) | (refine mix_end (fun p => ?_); simp only [List.drop_succ_cons, List.drop_zero]))
  refine (K3.out _ _ _ ?r3).mono ?_
  case r3 => have h := R2.out; simpa only [grew_grew, Array.append_assoc] using h
  rintro e w' ⟨v, rfl, hown, hb⟩
  obtain ⟨p3, rfl⟩ := below_grew hb
  obtain ⟨B3, d3, rfl, _, _⟩ := own_form hown
  have R3 := Lib.hid (Reads.of_own (enc := encE) (k := 6) (e := 34) (n := xs.length) (c := d3) (xs := zs) (fun _ => rfl) (by rw [Hzl.out]; exact hown)).2
  clear hb hown
  go_wp2_with (first | (go_at_call 12; refine (c_law5One _ _ _ _ _ _ _).mono ?_; rintro e w' ⟨rfl, hb⟩; obtain ⟨p, rfl⟩ := below_grew hb; clear hb) | (go_at_call 13; refine (c_awake5 _).mono ?_; rintro e w' ⟨rfl, hb⟩; obtain ⟨p, rfl⟩ := below_grew hb; clear hb) | (refine wp_region_mix (id := 11) 20 [(0, true), (1, true), (2, true), (3, true), (4, true), (5, true), (6, true), (7, true), (8, true), (9, true), (10, true), (11, true), (12, true), (13, true), (14, true), (15, true), (16, true), (17, true), (18, true), (19, true)] (by kernel_rfl) (by kernel_rfl) ?_) | (refine mix_quiet rfl (fun K hK => ?_); go_simp) | (apply Exists.intro; refine ⟨fun (_ : Ext) => ?_, ?_⟩; · (first | (go_at_call 12; exact calls_later (c_law5One _ _ _ _ _ _ _)) | (go_at_call 13; exact calls_later (c_awake5 _)))) | (refine mix_end (fun p => ?_); simp only [List.drop_succ_cons, List.drop_zero]))
  refine (K4.out _ _ _ ?r4).mono ?_
  case r4 => exact R1.out.below (by (try simp only [grew_grew, Array.append_assoc]); repeat' (first | with_reducible exact Below.refl _ _ | with_reducible assumption | with_reducible exact below_more _ _ _ _ | (with_reducible refine below_app _ _ _ _ ?_ ?_; rotate_left; simp only [Array.append_assoc]; rfl) | with_reducible apply below_grews | with_reducible apply Below.drew | with_reducible apply Below.alloc | with_reducible apply Below.setCell | (simp [size_grew, -Nat.not_le, -Nat.not_lt] <;> omega)))
  rintro e w' ⟨v, rfl, hown, hb⟩
  obtain ⟨p4, rfl⟩ := below_grew hb
  obtain ⟨B4, d4, rfl, _, _⟩ := own_form hown
  have R4 := Lib.hid (Reads.of_own (enc := encE) (k := 6) (e := 34) (n := xs.length) (c := d4) (xs := zs) (fun _ => rfl) (by rw [Hzl.out]; exact hown)).2
  clear hb hown
  go_wp2_with (first | (go_at_call 12; refine (c_law5One _ _ _ _ _ _ _).mono ?_; rintro e w' ⟨rfl, hb⟩; obtain ⟨p, rfl⟩ := below_grew hb; clear hb) | (go_at_call 13; refine (c_awake5 _).mono ?_; rintro e w' ⟨rfl, hb⟩; obtain ⟨p, rfl⟩ := below_grew hb; clear hb) | (refine wp_region_mix (id := 11) 20 [(0, true), (1, true), (2, true), (3, true), (4, true), (5, true), (6, true), (7, true), (8, true), (9, true), (10, true), (11, true), (12, true), (13, true), (14, true), (15, true), (16, true), (17, true), (18, true), (19, true)] (by kernel_rfl) (by kernel_rfl) ?_) | (refine mix_quiet rfl (fun K hK => ?_); go_simp) | (apply Exists.intro; refine ⟨fun (_ : Ext) => ?_, ?_⟩; · (first | (go_at_call 12; exact calls_later (c_law5One _ _ _ _ _ _ _)) | (go_at_call 13; exact calls_later (c_awake5 _)))) | (refine mix_end (fun p => ?_); simp only [List.drop_succ_cons, List.drop_zero]))
  have HB : Below w.heap.size w (grew w ⟨p4.d, p1.os ++ (p2.os ++ (p3.os ++ p4.os))⟩) := grew_below _ _
  have G1 : Reads encE 6 (grew w ⟨p4.d, p1.os ++ (p2.os ++ (p3.os ++ p4.os))⟩) B1 xs := R1.out.below (by (try simp only [grew_grew, Array.append_assoc]); repeat' (first | with_reducible exact Below.refl _ _ | with_reducible assumption | with_reducible exact below_more _ _ _ _ | (with_reducible refine below_app _ _ _ _ ?_ ?_; rotate_left; simp only [Array.append_assoc]; rfl) | with_reducible apply below_grews | with_reducible apply Below.drew | with_reducible apply Below.alloc | with_reducible apply Below.setCell | (simp [size_grew, -Nat.not_le, -Nat.not_lt] <;> omega)))
  have G3 : Reads encE 6 (grew w ⟨p4.d, p1.os ++ (p2.os ++ (p3.os ++ p4.os))⟩) B3 zs := by have h := R3.out.grew p4; simpa only [grew_grew, Array.append_assoc] using h
  have G4 : Reads encE 6 (grew w ⟨p4.d, p1.os ++ (p2.os ++ (p3.os ++ p4.os))⟩) B4 zs := by have h := R4.out; simpa only [grew_grew, Array.append_assoc] using h
  have Gr : Reads encE 6 (grew w ⟨p4.d, p1.os ++ (p2.os ++ (p3.os ++ p4.os))⟩) A xs := hr.below HB
  clear R1 R2 R3 R4 hr K1 K2 K3 K4
  generalize grew w ⟨p4.d, p1.os ++ (p2.os ++ (p3.os ++ p4.os))⟩ = W at *
  have Q3 := Lib.hid G3
  go_loopw [25] (fun v25 wr => ∃ k : Nat, k ≤ xs.length ∧ v25 = .int .i64 k ∧ ∃ q : Ext, wr = grew W q) (fun i _ => xs.length - (intOf i).toNat)
  case atStart => exact ⟨0, Nat.zero_le _, rfl, ⟨W.drawn, #[]⟩, by first | (simp [grew]; done) | (simp [grew]; rfl)⟩
  case round =>
    obtain ⟨k, hk, rfl, q, rfl⟩ := hrel
    by_cases hlt : k < xs.length
    · have hltz : k < zs.length := by rw [Hzl.out]; exact hlt
      obtain ⟨b0, o0, rfl, hb0, a0, a1, a2, a3, a4, a5⟩ := Gr.atE hlt
      obtain ⟨b1, o1, rfl, hb1, e0, e1, e2, e3, e4, e5⟩ := G1.atE hlt
      obtain ⟨b3, o3, rfl, hb3, f0, f1, f2, f3, f4, f5⟩ := G3.atE hltz
      obtain ⟨b4, o4, rfl, hb4, g0, g1, g2, g3, g4, g5⟩ := G4.atE hltz
      clear Q3 K5 G1 G3 G4 Gr
      go_wp2_with (first | (go_at_call 12; refine (c_law5One _ _ _ _ _ _ _).mono ?_; rintro e w' ⟨rfl, hb⟩; obtain ⟨p, rfl⟩ := below_grew hb; clear hb) | (go_at_call 13; refine (c_awake5 _).mono ?_; rintro e w' ⟨rfl, hb⟩; obtain ⟨p, rfl⟩ := below_grew hb; clear hb) | (refine wp_region_mix (id := 11) 20 [(0, true), (1, true), (2, true), (3, true), (4, true), (5, true), (6, true), (7, true), (8, true), (9, true), (10, true), (11, true), (12, true), (13, true), (14, true), (15, true), (16, true), (17, true), (18, true), (19, true)] (by kernel_rfl) (by kernel_rfl) ?_) | (refine mix_quiet rfl (fun K hK => ?_); go_simp) | (apply Exists.intro; refine ⟨fun (_ : Ext) => ?_, ?_⟩; · (first | (go_at_call 12; exact calls_later (c_law5One _ _ _ _ _ _ _)) | (go_at_call 13; exact calls_later (c_awake5 _)))) | (refine mix_end (fun p => ?_); simp only [List.drop_succ_cons, List.drop_zero]))
      go_roundw
      case rel => exact ⟨k + 1, by omega, by go_num, below_grew (by repeat' (first | with_reducible exact Below.refl _ _ | with_reducible assumption | with_reducible apply below_grews | with_reducible apply Below.drew | with_reducible apply Below.alloc | with_reducible apply Below.setCell | (simp [size_grew, -Nat.not_le, -Nat.not_lt] <;> omega)))⟩
      case measure => first | (simp [intOf]; done) | (simp [intOf]; omega)
    · obtain rfl : k = xs.length := by omega
      clear G1 G3 G4 Gr
      go_wp2_with (first | (go_at_call 12; refine (c_law5One _ _ _ _ _ _ _).mono ?_; rintro e w' ⟨rfl, hb⟩; obtain ⟨p, rfl⟩ := below_grew hb; clear hb) | (go_at_call 13; refine (c_awake5 _).mono ?_; rintro e w' ⟨rfl, hb⟩; obtain ⟨p, rfl⟩ := below_grew hb; clear hb) | (refine wp_region_mix (id := 11) 20 [(0, true), (1, true), (2, true), (3, true), (4, true), (5, true), (6, true), (7, true), (8, true), (9, true), (10, true), (11, true), (12, true), (13, true), (14, true), (15, true), (16, true), (17, true), (18, true), (19, true)] (by kernel_rfl) (by kernel_rfl) ?_) | (refine mix_quiet rfl (fun K hK => ?_); go_simp) | (apply Exists.intro; refine ⟨fun (_ : Ext) => ?_, ?_⟩; · (first | (go_at_call 12; exact calls_later (c_law5One _ _ _ _ _ _ _)) | (go_at_call 13; exact calls_later (c_awake5 _)))) | (refine mix_end (fun p => ?_); simp only [List.drop_succ_cons, List.drop_zero]))
      refine (K5.out _ _ _ (Q3.out.grew _)).mono ?_
      rintro e w' ⟨rfl, hb⟩
      obtain ⟨p5, rfl⟩ := below_grew hb
      clear hb
      go_wp2_with (first | (go_at_call 12; refine (c_law5One _ _ _ _ _ _ _).mono ?_; rintro e w' ⟨rfl, hb⟩; obtain ⟨p, rfl⟩ := below_grew hb; clear hb) | (go_at_call 13; refine (c_awake5 _).mono ?_; rintro e w' ⟨rfl, hb⟩; obtain ⟨p, rfl⟩ := below_grew hb; clear hb) | (refine wp_region_mix (id := 11) 20 [(0, true), (1, true), (2, true), (3, true), (4, true), (5, true), (6, true), (7, true), (8, true), (9, true), (10, true), (11, true), (12, true), (13, true), (14, true), (15, true), (16, true), (17, true), (18, true), (19, true)] (by kernel_rfl) (by kernel_rfl) ?_) | (refine mix_quiet rfl (fun K hK => ?_); go_simp) | (apply Exists.intro; refine ⟨fun (_ : Ext) => ?_, ?_⟩; · (first | (go_at_call 12; exact calls_later (c_law5One _ _ _ _ _ _ _)) | (go_at_call 13; exact calls_later (c_awake5 _)))) | (refine mix_end (fun p => ?_); simp only [List.drop_succ_cons, List.drop_zero]))
      refine bodyPost_ret (v := .bool true) ?_ rfl ⟨rfl, ?_⟩
      · simp [results, Try.f8, go_sem]
      · repeat' (first | with_reducible exact Below.refl _ _ | with_reducible assumption | with_reducible apply below_grews | with_reducible apply Below.drew | with_reducible apply Below.alloc | with_reducible apply Below.setCell | (simp [size_grew, -Nat.not_le, -Nat.not_lt] <;> omega))
end Go.Proofs.Ytjgjohonbjmakaa
