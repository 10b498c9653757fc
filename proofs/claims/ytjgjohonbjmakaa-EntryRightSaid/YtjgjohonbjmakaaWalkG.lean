/- What single calls do: awake. -/
import Derived.Test.YtjgjohonbjmakaaWalkE
import Derived.Test.YtjgjohonbjmakaaSpecD
namespace Go.Proofs.Ytjgjohonbjmakaa
set_option linter.unusedSimpArgs false
set_option linter.unusedVariables false
open Go.RowKit
attribute [local go_sem high] eql_25 neq_25 eql_24 neq_24 eql_27 neq_27 eql_32 neq_32 eql_29 neq_29 eql_34 neq_34 eql_41 neq_41 eql_44 neq_44
attribute [local go_sem ↓ high] yielded_undef
attribute [local go_sem] eqg_25 eqg_24 eqg_27 eqg_32 eqg_29 eqg_34 eqg_41 eqg_44 cell_grew frozen_grew size_grew grew_grew drewN_grew lt_addk size_setW Instr.field asAgg lt_gi_k lt_gi_kh lt_gi_k_k lt_gi_k_kh lt_gi_k_k_k lt_gi_k_k_kh lt_gi_i_k lt_gi_i_kh lt_gi_i_k_k lt_gi_i_k_kh lt_gi_i_k_k_k lt_gi_i_k_k_kh lt_gi_i_i_k lt_gi_i_i_kh lt_gi_i_i_k_k lt_gi_i_i_k_kh lt_gi_i_i_k_k_k lt_gi_i_i_k_k_kh lt_gi_i_i_i_k lt_gi_i_i_i_kh lt_gi_i_i_i_k_k lt_gi_i_i_i_k_kh lt_gi_i_i_i_k_k_k lt_gi_i_i_i_k_k_kh lt_gi_i_i_i_i_k lt_gi_i_i_i_i_kh lt_gi_i_i_i_i_k_k lt_gi_i_i_i_i_k_kh lt_gi_i_i_i_i_k_k_k lt_gi_i_i_i_i_k_k_kh lt_gi_i_i_i_i_i_k lt_gi_i_i_i_i_i_kh lt_gi_i_i_i_i_i_k_k lt_gi_i_i_i_i_i_k_kh lt_gi_i_i_i_i_i_k_k_k lt_gi_i_i_i_i_i_k_k_kh lt_gi_i_i_i_i_i_i_k lt_gi_i_i_i_i_i_i_kh lt_gi_i_i_i_i_i_i_k_k lt_gi_i_i_i_i_i_i_k_kh lt_gi_i_i_i_i_i_i_k_k_k lt_gi_i_i_i_i_i_i_k_k_kh lt_gi_i_i_i_i_i_i_i_k lt_gi_i_i_i_i_i_i_i_kh lt_gi_i_i_i_i_i_i_i_k_k lt_gi_i_i_i_i_i_i_i_k_kh lt_gi_i_i_i_i_i_i_i_k_k_k lt_gi_i_i_i_i_i_i_i_k_k_kh lt_gi_k_i lt_gi_k_ih lt_gi_k_i_k lt_gi_k_i_kh lt_gi_k_k_i lt_gi_k_k_ih lt_gi_k_k_i_k lt_gi_k_k_i_kh lt_gi_k_i_i lt_gi_k_i_ih lt_gi_k_i_i_k lt_gi_k_i_i_kh lt_gi_k_k_i_i lt_gi_k_k_i_ih lt_gi_k_k_i_i_k lt_gi_k_k_i_i_kh lt_gi_k_i_i_i lt_gi_k_i_i_ih lt_gi_k_i_i_i_k lt_gi_k_i_i_i_kh lt_gi_k_k_i_i_i lt_gi_k_k_i_i_ih lt_gi_k_k_i_i_i_k lt_gi_k_k_i_i_i_kh lt_gi_i_k_i lt_gi_i_k_ih lt_gi_i_k_i_k lt_gi_i_k_i_kh lt_gi_i_k_k_i lt_gi_i_k_k_ih lt_gi_i_k_k_i_k lt_gi_i_k_k_i_kh lt_gi_i_k_i_i lt_gi_i_k_i_ih lt_gi_i_k_i_i_k lt_gi_i_k_i_i_kh lt_gi_i_k_k_i_i lt_gi_i_k_k_i_ih lt_gi_i_k_k_i_i_k lt_gi_i_k_k_i_i_kh lt_gi_i_k_i_i_i lt_gi_i_k_i_i_ih lt_gi_i_k_i_i_i_k lt_gi_i_k_i_i_i_kh lt_gi_i_k_k_i_i_i lt_gi_i_k_k_i_i_ih lt_gi_i_k_k_i_i_i_k lt_gi_i_k_k_i_i_i_kh lt_gi_i_i_k_i lt_gi_i_i_k_ih lt_gi_i_i_k_i_k lt_gi_i_i_k_i_kh lt_gi_i_i_k_k_i lt_gi_i_i_k_k_ih lt_gi_i_i_k_k_i_k lt_gi_i_i_k_k_i_kh lt_gi_i_i_k_i_i lt_gi_i_i_k_i_ih lt_gi_i_i_k_i_i_k lt_gi_i_i_k_i_i_kh lt_gi_i_i_k_k_i_i lt_gi_i_i_k_k_i_ih lt_gi_i_i_k_k_i_i_k lt_gi_i_i_k_k_i_i_kh lt_gi_i_i_k_i_i_i lt_gi_i_i_k_i_i_ih lt_gi_i_i_k_i_i_i_k lt_gi_i_i_k_i_i_i_kh lt_gi_i_i_k_k_i_i_i lt_gi_i_i_k_k_i_i_ih lt_gi_i_i_k_k_i_i_i_k lt_gi_i_i_k_k_i_i_i_kh lt_gi_i_i_i_k_i lt_gi_i_i_i_k_ih lt_gi_i_i_i_k_i_k lt_gi_i_i_i_k_i_kh lt_gi_i_i_i_k_k_i lt_gi_i_i_i_k_k_ih lt_gi_i_i_i_k_k_i_k lt_gi_i_i_i_k_k_i_kh lt_gi_i_i_i_k_i_i lt_gi_i_i_i_k_i_ih lt_gi_i_i_i_k_i_i_k lt_gi_i_i_i_k_i_i_kh lt_gi_i_i_i_k_k_i_i lt_gi_i_i_i_k_k_i_ih lt_gi_i_i_i_k_k_i_i_k lt_gi_i_i_i_k_k_i_i_kh lt_gi_i_i_i_k_i_i_i lt_gi_i_i_i_k_i_i_ih lt_gi_i_i_i_k_i_i_i_k lt_gi_i_i_i_k_i_i_i_kh lt_gi_i_i_i_k_k_i_i_i lt_gi_i_i_i_k_k_i_i_ih lt_gi_i_i_i_k_k_i_i_i_k lt_gi_i_i_i_k_k_i_i_i_kh lt_gi_i_i_i_i_k_i lt_gi_i_i_i_i_k_ih lt_gi_i_i_i_i_k_i_k lt_gi_i_i_i_i_k_i_kh lt_gi_i_i_i_i_k_k_i lt_gi_i_i_i_i_k_k_ih lt_gi_i_i_i_i_k_k_i_k lt_gi_i_i_i_i_k_k_i_kh lt_gi_i_i_i_i_k_i_i lt_gi_i_i_i_i_k_i_ih lt_gi_i_i_i_i_k_i_i_k lt_gi_i_i_i_i_k_i_i_kh lt_gi_i_i_i_i_k_k_i_i lt_gi_i_i_i_i_k_k_i_ih lt_gi_i_i_i_i_k_k_i_i_k lt_gi_i_i_i_i_k_k_i_i_kh lt_gi_i_i_i_i_k_i_i_i lt_gi_i_i_i_i_k_i_i_ih lt_gi_i_i_i_i_k_i_i_i_k lt_gi_i_i_i_i_k_i_i_i_kh lt_gi_i_i_i_i_k_k_i_i_i lt_gi_i_i_i_i_k_k_i_i_ih lt_gi_i_i_i_i_k_k_i_i_i_k lt_gi_i_i_i_i_k_k_i_i_i_kh
set_option maxRecDepth 100000 in
set_option maxHeartbeats 4000000 in
theorem c_awake5 (w : World) : Calls Try.prog 13 #[] w fun e w' => e = .returned (.bool true) ∧ Below w.heap.size w w' := by
  obtain ⟨X, hX⟩ : ∃ X, X = awX := ⟨_, rfl⟩
  obtain ⟨Y, hY⟩ : ∃ Y, Y = awY := ⟨_, rfl⟩
  have q1 := aw_above
  have q2 := aw_below
  have q3 := aw_right
  have q4 := aw_ord
  have q5 := aw_nord
  have q6 := aw_tell
  rw [← hX, ← hY] at q1 q2 q4 q5 q6
  rw [← hX] at q3
  have HX := Lib.hid hX
  have HY := Lib.hid hY
  have Q4 := Lib.hid q4
  have Q5 := Lib.hid q5
  have Q6 := Lib.hid q6
  clear hX hY q4 q5 q6
  have q1 : eAbove ⟨⟨⟨Y.w.v.x, Y.w.v.y⟩, ⟨Y.w.m.x, Y.w.m.y⟩⟩, Y.len, Y.act⟩ ⟨⟨⟨X.w.v.x, X.w.v.y⟩, ⟨X.w.m.x, X.w.m.y⟩⟩, X.len, X.act⟩ = true := q1
  have q2 : eAbove ⟨⟨⟨X.w.v.x, X.w.v.y⟩, ⟨X.w.m.x, X.w.m.y⟩⟩, X.len, X.act⟩ ⟨⟨⟨Y.w.v.x, Y.w.v.y⟩, ⟨Y.w.m.x, Y.w.m.y⟩⟩, Y.len, Y.act⟩ = false := q2
  have q3 : eRight ⟨⟨⟨X.w.v.x, X.w.v.y⟩, ⟨X.w.m.x, X.w.m.y⟩⟩, X.len, X.act⟩ = true := q3
  have h4 := fun W N (h : Reads encE 6 W (some ⟨N, 0, none⟩) [Y, X]) => c_Ordered (some ⟨N, 0, none⟩) 2 [Y, X] (by simp) W h
  have h5 := fun W N (h : Reads encE 6 W (some ⟨N, 0, none⟩) [X, Y]) => c_Ordered (some ⟨N, 0, none⟩) 2 [X, Y] (by simp) W h
  have h6 := fun W N (h : Reads encE 6 W (some ⟨N, 0, none⟩) [X, Y]) => c_Tell (some ⟨N, 0, none⟩) 2 [X, Y] 720857415355990016 0 W h
  rw [Q4.out] at h4
  rw [Q5.out] at h5
  rw [Q6.out] at h6
  simp only [List.length_cons, List.length_nil, Nat.zero_add, Nat.reduceAdd] at h4 h5 h6
  have H4 := Lib.hid h4
  have H5 := Lib.hid h5
  have H6 := Lib.hid h6
  clear h4 h5 h6
  go_enter Try.func13, Try.ntmps13
  go_wp2_with fail
  refine (c_pMake _ _ _ _).mono ?_
  rintro e w' ⟨rfl, hb⟩
  obtain ⟨p1, rfl⟩ := below_grew hb
  clear hb
  go_wp2_with fail
  refine (c_eOf _ _ _ _ _).mono ?_
  rintro e w' ⟨rfl, hb⟩
  obtain ⟨p2, rfl⟩ := below_grew hb
  clear hb
  rw [show eOf ⟨⟨(pMake ⟨720575940379279360, 0⟩ 8).a.x, (pMake ⟨720575940379279360, 0⟩ 8).a.y⟩, (pMake ⟨720575940379279360, 0⟩ 8).len⟩ 1 = X from HX.out.symm]
  go_wp2_with fail
  refine (c_pMake _ _ _ _).mono ?_
  rintro e w' ⟨rfl, hb⟩
  obtain ⟨p3, rfl⟩ := below_grew hb
  clear hb
  go_wp2_with fail
  refine (c_eOf _ _ _ _ _).mono ?_
  rintro e w' ⟨rfl, hb⟩
  obtain ⟨p4, rfl⟩ := below_grew hb
  clear hb
  rw [show eOf ⟨⟨(pMake ⟨720857415355990016, 0⟩ 16).a.x, (pMake ⟨720857415355990016, 0⟩ 16).a.y⟩, (pMake ⟨720857415355990016, 0⟩ 16).len⟩ 2 = Y from HY.out.symm]
  go_wp2_with (first | (go_at_call 17; refine (c_eOf _ _ _ _ _).mono ?_; rintro e w' ⟨rfl, hb⟩; obtain ⟨p, rfl⟩ := below_grew hb; clear hb) | (go_at_call 19; refine (c_eRight _ _ _ _ _ _ _).mono ?_; rintro e w' ⟨rfl, hb⟩; obtain ⟨p, rfl⟩ := below_grew hb; clear hb) | (go_at_call 20; refine (c_Above _ _ _ _ _ _ _ _ _ _ _ _ _).mono ?_; rintro e w' ⟨rfl, hb⟩; obtain ⟨p, rfl⟩ := below_grew hb; clear hb) | (go_at_call 36; refine (c_pMake _ _ _ _).mono ?_; rintro e w' ⟨rfl, hb⟩; obtain ⟨p, rfl⟩ := below_grew hb; clear hb))
  refine (H4.out _ _ ?r1).mono ?_
  case r1 => refine Reads.made' (enc := encE) (k := 6) (fun _ => rfl) [Y, X] (by simp) ?_ ?_ <;> first | rfl | (simp [size_grew]; done)
  rintro e w' ⟨rfl, hb⟩
  obtain ⟨p5, rfl⟩ := below_grew hb
  clear hb
  go_wp2_with (first | (go_at_call 17; refine (c_eOf _ _ _ _ _).mono ?_; rintro e w' ⟨rfl, hb⟩; obtain ⟨p, rfl⟩ := below_grew hb; clear hb) | (go_at_call 19; refine (c_eRight _ _ _ _ _ _ _).mono ?_; rintro e w' ⟨rfl, hb⟩; obtain ⟨p, rfl⟩ := below_grew hb; clear hb) | (go_at_call 20; refine (c_Above _ _ _ _ _ _ _ _ _ _ _ _ _).mono ?_; rintro e w' ⟨rfl, hb⟩; obtain ⟨p, rfl⟩ := below_grew hb; clear hb) | (go_at_call 36; refine (c_pMake _ _ _ _).mono ?_; rintro e w' ⟨rfl, hb⟩; obtain ⟨p, rfl⟩ := below_grew hb; clear hb))
  refine (H5.out _ _ ?r2).mono ?_
  case r2 => refine Reads.made' (enc := encE) (k := 6) (fun _ => rfl) [X, Y] (by simp) ?_ ?_ <;> first | rfl | (simp [size_grew]; done)
  rintro e w' ⟨rfl, hb⟩
  obtain ⟨p6, rfl⟩ := below_grew hb
  clear hb
  go_wp2_with (first | (go_at_call 17; refine (c_eOf _ _ _ _ _).mono ?_; rintro e w' ⟨rfl, hb⟩; obtain ⟨p, rfl⟩ := below_grew hb; clear hb) | (go_at_call 19; refine (c_eRight _ _ _ _ _ _ _).mono ?_; rintro e w' ⟨rfl, hb⟩; obtain ⟨p, rfl⟩ := below_grew hb; clear hb) | (go_at_call 20; refine (c_Above _ _ _ _ _ _ _ _ _ _ _ _ _).mono ?_; rintro e w' ⟨rfl, hb⟩; obtain ⟨p, rfl⟩ := below_grew hb; clear hb) | (go_at_call 36; refine (c_pMake _ _ _ _).mono ?_; rintro e w' ⟨rfl, hb⟩; obtain ⟨p, rfl⟩ := below_grew hb; clear hb))
  refine (H6.out _ _ ?r3).mono ?_
  case r3 => refine Reads.made' (enc := encE) (k := 6) (fun _ => rfl) [X, Y] (by simp) ?_ ?_ <;> first | rfl | (simp [size_grew]; done)
  rintro e w' ⟨rfl, hb⟩
  obtain ⟨p7, rfl⟩ := below_grew hb
  clear hb
  go_wp2
  refine bodyPost_ret (v := .bool true) ?_ rfl ⟨rfl, ?_⟩
  · simp [results, Try.f13, go_sem]
  · repeat' (first | with_reducible exact Below.refl _ _ | with_reducible assumption | with_reducible apply below_grews | with_reducible apply Below.drew | with_reducible apply Below.alloc | with_reducible apply Below.setCell | (simp [size_grew, -Nat.not_le, -Nat.not_lt] <;> omega))
end Go.Proofs.Ytjgjohonbjmakaa
