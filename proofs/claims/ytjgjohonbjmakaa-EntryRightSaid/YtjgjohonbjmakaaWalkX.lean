/- What single calls do: the reference's operation bit by bit. -/
import Derived.Test.YtjgjohonbjmakaaWalkW
namespace Go.Proofs.Ytjgjohonbjmakaa
set_option linter.unusedSimpArgs false
set_option linter.unusedVariables false
open Go.RowKit
attribute [local go_sem high] eql_25 neq_25 eql_24 neq_24 eql_27 neq_27 eql_32 neq_32 eql_29 neq_29 eql_34 neq_34 eql_41 neq_41 eql_44 neq_44
attribute [local go_sem ↓ high] yielded_undef
attribute [local go_sem] eqg_25 eqg_24 eqg_27 eqg_32 eqg_29 eqg_34 eqg_41 eqg_44 cell_grew frozen_grew size_grew grew_grew drewN_grew lt_addk size_setW Instr.field asAgg lt_gi_k lt_gi_kh lt_gi_k_k lt_gi_k_kh lt_gi_k_k_k lt_gi_k_k_kh lt_gi_i_k lt_gi_i_kh lt_gi_i_k_k lt_gi_i_k_kh lt_gi_i_k_k_k lt_gi_i_k_k_kh lt_gi_i_i_k lt_gi_i_i_kh lt_gi_i_i_k_k lt_gi_i_i_k_kh lt_gi_i_i_k_k_k lt_gi_i_i_k_k_kh lt_gi_i_i_i_k lt_gi_i_i_i_kh lt_gi_i_i_i_k_k lt_gi_i_i_i_k_kh lt_gi_i_i_i_k_k_k lt_gi_i_i_i_k_k_kh lt_gi_i_i_i_i_k lt_gi_i_i_i_i_kh lt_gi_i_i_i_i_k_k lt_gi_i_i_i_i_k_kh lt_gi_i_i_i_i_k_k_k lt_gi_i_i_i_i_k_k_kh lt_gi_i_i_i_i_i_k lt_gi_i_i_i_i_i_kh lt_gi_i_i_i_i_i_k_k lt_gi_i_i_i_i_i_k_kh lt_gi_i_i_i_i_i_k_k_k lt_gi_i_i_i_i_i_k_k_kh lt_gi_i_i_i_i_i_i_k lt_gi_i_i_i_i_i_i_kh lt_gi_i_i_i_i_i_i_k_k lt_gi_i_i_i_i_i_i_k_kh lt_gi_i_i_i_i_i_i_k_k_k lt_gi_i_i_i_i_i_i_k_k_kh lt_gi_i_i_i_i_i_i_i_k lt_gi_i_i_i_i_i_i_i_kh lt_gi_i_i_i_i_i_i_i_k_k lt_gi_i_i_i_i_i_i_i_k_kh lt_gi_i_i_i_i_i_i_i_k_k_k lt_gi_i_i_i_i_i_i_i_k_k_kh lt_gi_k_i lt_gi_k_ih lt_gi_k_i_k lt_gi_k_i_kh lt_gi_k_k_i lt_gi_k_k_ih lt_gi_k_k_i_k lt_gi_k_k_i_kh lt_gi_k_i_i lt_gi_k_i_ih lt_gi_k_i_i_k lt_gi_k_i_i_kh lt_gi_k_k_i_i lt_gi_k_k_i_ih lt_gi_k_k_i_i_k lt_gi_k_k_i_i_kh lt_gi_k_i_i_i lt_gi_k_i_i_ih lt_gi_k_i_i_i_k lt_gi_k_i_i_i_kh lt_gi_k_k_i_i_i lt_gi_k_k_i_i_ih lt_gi_k_k_i_i_i_k lt_gi_k_k_i_i_i_kh lt_gi_i_k_i lt_gi_i_k_ih lt_gi_i_k_i_k lt_gi_i_k_i_kh lt_gi_i_k_k_i lt_gi_i_k_k_ih lt_gi_i_k_k_i_k lt_gi_i_k_k_i_kh lt_gi_i_k_i_i lt_gi_i_k_i_ih lt_gi_i_k_i_i_k lt_gi_i_k_i_i_kh lt_gi_i_k_k_i_i lt_gi_i_k_k_i_ih lt_gi_i_k_k_i_i_k lt_gi_i_k_k_i_i_kh lt_gi_i_k_i_i_i lt_gi_i_k_i_i_ih lt_gi_i_k_i_i_i_k lt_gi_i_k_i_i_i_kh lt_gi_i_k_k_i_i_i lt_gi_i_k_k_i_i_ih lt_gi_i_k_k_i_i_i_k lt_gi_i_k_k_i_i_i_kh lt_gi_i_i_k_i lt_gi_i_i_k_ih lt_gi_i_i_k_i_k lt_gi_i_i_k_i_kh lt_gi_i_i_k_k_i lt_gi_i_i_k_k_ih lt_gi_i_i_k_k_i_k lt_gi_i_i_k_k_i_kh lt_gi_i_i_k_i_i lt_gi_i_i_k_i_ih lt_gi_i_i_k_i_i_k lt_gi_i_i_k_i_i_kh lt_gi_i_i_k_k_i_i lt_gi_i_i_k_k_i_ih lt_gi_i_i_k_k_i_i_k lt_gi_i_i_k_k_i_i_kh lt_gi_i_i_k_i_i_i lt_gi_i_i_k_i_i_ih lt_gi_i_i_k_i_i_i_k lt_gi_i_i_k_i_i_i_kh lt_gi_i_i_k_k_i_i_i lt_gi_i_i_k_k_i_i_ih lt_gi_i_i_k_k_i_i_i_k lt_gi_i_i_k_k_i_i_i_kh lt_gi_i_i_i_k_i lt_gi_i_i_i_k_ih lt_gi_i_i_i_k_i_k lt_gi_i_i_i_k_i_kh lt_gi_i_i_i_k_k_i lt_gi_i_i_i_k_k_ih lt_gi_i_i_i_k_k_i_k lt_gi_i_i_i_k_k_i_kh lt_gi_i_i_i_k_i_i lt_gi_i_i_i_k_i_ih lt_gi_i_i_i_k_i_i_k lt_gi_i_i_i_k_i_i_kh lt_gi_i_i_i_k_k_i_i lt_gi_i_i_i_k_k_i_ih lt_gi_i_i_i_k_k_i_i_k lt_gi_i_i_i_k_k_i_i_kh lt_gi_i_i_i_k_i_i_i lt_gi_i_i_i_k_i_i_ih lt_gi_i_i_i_k_i_i_i_k lt_gi_i_i_i_k_i_i_i_kh lt_gi_i_i_i_k_k_i_i_i lt_gi_i_i_i_k_k_i_i_ih lt_gi_i_i_i_k_k_i_i_i_k lt_gi_i_i_i_k_k_i_i_i_kh lt_gi_i_i_i_i_k_i lt_gi_i_i_i_i_k_ih lt_gi_i_i_i_i_k_i_k lt_gi_i_i_i_i_k_i_kh lt_gi_i_i_i_i_k_k_i lt_gi_i_i_i_i_k_k_ih lt_gi_i_i_i_i_k_k_i_k lt_gi_i_i_i_i_k_k_i_kh lt_gi_i_i_i_i_k_i_i lt_gi_i_i_i_i_k_i_ih lt_gi_i_i_i_i_k_i_i_k lt_gi_i_i_i_i_k_i_i_kh lt_gi_i_i_i_i_k_k_i_i lt_gi_i_i_i_i_k_k_i_ih lt_gi_i_i_i_i_k_k_i_i_k lt_gi_i_i_i_i_k_k_i_i_kh lt_gi_i_i_i_i_k_i_i_i lt_gi_i_i_i_i_k_i_i_ih lt_gi_i_i_i_i_k_i_i_i_k lt_gi_i_i_i_i_k_i_i_i_kh lt_gi_i_i_i_i_k_k_i_i_i lt_gi_i_i_i_i_k_k_i_i_ih lt_gi_i_i_i_i_k_k_i_i_i_k lt_gi_i_i_i_i_k_k_i_i_i_kh
def andL (a b : A2) : List Bool := (List.range 128).map fun (k : Nat) => abit a k && abit b k
theorem andL_len (a b : A2) : (andL a b).length = 128 := by simp [andL]
theorem andL_get (a b : A2) {k : Nat} (h : k < (andL a b).length) : (andL a b)[k] = (abit a k && abit b k) := by simp [andL]
set_option maxRecDepth 100000 in
set_option maxHeartbeats 4000000 in
theorem c_rAnd (a0 a1 b0 b1 : Int) (h1 : A2.ok ⟨a0, a1⟩) (h2 : A2.ok ⟨b0, b1⟩) (w : World) :
    Calls Try.prog 15 #[.int .i64 0, .agg #[.int .u64 a0, .int .u64 a1], .agg #[.int .u64 b0, .int .u64 b1]] w fun e w' => e = .returned (.agg #[.int .u64 (words (bitAt (andL ⟨a0, a1⟩ ⟨b0, b1⟩))).x, .int .u64 (words (bitAt (andL ⟨a0, a1⟩ ⟨b0, b1⟩))).y]) ∧ Below w.heap.size w w' := by
  have HW := fun A c W h => c_Words A c (andL ⟨a0, a1⟩ ⟨b0, b1⟩) (andL_len _ _) W h
  have KW := Lib.hid HW
  clear HW
  generalize words (bitAt (andL ⟨a0, a1⟩ ⟨b0, b1⟩)) = R at KW ⊢
  obtain ⟨L, hL⟩ : ∃ L, L = andL ⟨a0, a1⟩ ⟨b0, b1⟩ := ⟨_, rfl⟩
  have hLl : L.length = 128 := by rw [hL]; exact andL_len _ _
  have hLg : ∀ k (h : k < L.length), L[k] = (abit ⟨a0, a1⟩ k && abit ⟨b0, b1⟩ k) := by subst hL; exact fun k h => andL_get _ _ h
  rw [← hL] at KW
  clear hL
  have HLg := Lib.hid hLg
  clear hLg
  go_enter Try.func15, Try.ntmps15
  go_wp2_with fail
  refine (c_Bits _ _ h1 _).mono ?_
  rintro e w' ⟨x1, rfl, g1, r1, l1⟩
  obtain ⟨p1, rfl⟩ := below_grew l1
  clear l1 g1
  go_wp2_with fail
  refine (c_Bits _ _ h2 _).mono ?_
  rintro e w' ⟨x2, rfl, g2, r2, l2⟩
  obtain ⟨p2, rfl⟩ := below_grew l2
  clear l2 g2
  replace r1 := rowIs_grew r1 p2
  simp only [grew_grew, Array.append_assoc] at r1 r2
  go_wp2_with fail
  have z1 := r1.lt
  have z2 := r2.lt
  obtain ⟨W0, hW0⟩ : ∃ W0, W0 = ((w.alloc (.cells #[.int .u64 a0, .int .u64 a1] 24)).alloc (.cells #[.int .u64 b0, .int .u64 b1] 24)).alloc (.cells #[.int .u64 0, .int .u64 0] 24) := ⟨_, rfl⟩
  rw [← hW0] at r1 r2 z1 z2 ⊢
  have HW0 := Lib.hid hW0
  clear hW0
  go_loopw [9, 10] (fun v9 v10 wr => ∃ k : Nat, k ≤ 128 ∧ v10 = .int .i64 k ∧ Hid (wr.ownsRow (W0.heap.size + (p1.os.size + p2.os.size)) 4 1 v9 k ((L.take k).flatMap encB)) ∧ Hid (Below (grew W0 ⟨p2.d, p1.os ++ p2.os⟩).heap.size (grew W0 ⟨p2.d, p1.os ++ p2.os⟩) wr)) (fun _ i _ => 128 - (intOf i).toNat)
  case atStart => exact ⟨0, Nat.zero_le _, rfl, World.ownsRow_nil _ _ _ _, Below.refl _ _⟩
  case round =>
    rename_i v9 v10 wr
    obtain ⟨k, hk, rfl, HO, HB⟩ := hrel
    by_cases hlt : k < 128
    · have hlt2 : k < L.length := by rw [hLl]; exact hlt
      have s1 : wr.rowIs x1 4 128 (fun i => .bool (abit ⟨a0, a1⟩ i)) := r1.of_block (HB.out.block x1 r1.lt)
      have s2 : wr.rowIs x2 4 128 (fun i => .bool (abit ⟨b0, b1⟩ i)) := r2.of_block (HB.out.block x2 r2.lt)
      have c1 := s1.cell hlt
      have c2 := s2.cell hlt
      have y1 := s1.lt
      have y2 := s2.lt
      have hg := HLg.out k hlt2
      generalize abit ⟨a0, a1⟩ k = u at c1 hg
      generalize abit ⟨b0, b1⟩ k = v at c2 hg
      have Hg := Lib.hid hg
      clear hg s1 s2 r1 r2
      have hsz : W0.heap.size + (p1.os.size + p2.os.size) ≤ wr.heap.size := by have := HB.out.size; simpa [size_grew] using this
      cases u <;> cases v
      all_goals
        go_wp2_with (at_builtin; refine app_one (W0.heap.size + (p1.os.size + p2.os.size)) 1 1 (.bool false) (by kernel_rfl) (by kernel_rfl) rfl (by omega) rfl rfl rfl (by simp [Act.eval, size_grew]) rfl (by simp [Value.oneCell']) HO.out (by omega) hsz ?hl ?_)
        case hl => omega
        intro v1 w1 hown hg
        have H1 : Hid (w1.ownsRow (W0.heap.size + (p1.os.size + p2.os.size)) 4 1 v1 (k + 1) ((L.take (k + 1)).flatMap encB)) := by show World.ownsRow _ _ _ _ _ _ _; rw [rows_snoc encB L hlt2, Hg.out]; exact hown
        have H2 : Hid (Below (grew W0 ⟨p2.d, p1.os ++ p2.os⟩).heap.size (grew W0 ⟨p2.d, p1.os ++ p2.os⟩) w1) := below_own HB.out hg (fun k hk => by have := own_base HO.out k hk; simpa [size_grew] using this)
        clear hown hg HO HB
        go_wp2
        go_roundw
        case rel => exact ⟨k + 1, by omega, by go_num, H1, H2⟩
        case measure => first | (simp [intOf]; done) | (simp [intOf]; omega)
    · obtain rfl : k = 128 := by omega
      obtain ⟨B, d, rfl, _, _⟩ := own_form HO.out
      have hR : Reads encB 1 wr B L := (Reads.of_own (enc := encB) (k := 1) (e := 4) (base := (W0.heap.size + (p1.os.size + p2.os.size))) (n := 128) (c := d) (fun _ => rfl) (by have h := HO.out; rw [List.take_of_length_le (by omega)] at h; rw [hLl]; exact h)).2
      obtain ⟨q, hq⟩ := below_grew HB.out
      clear HO HB r1 r2
      have hW0 := HW0.out
      clear HW0
      subst hq hW0
      go_wp2_with fail
      refine (KW.out _ _ _ ?rr).mono ?_
      case rr => simpa only [grew_grew, Array.append_assoc] using hR
      rintro e w' ⟨rfl, hb⟩
      obtain ⟨p, rfl⟩ := below_grew hb
      clear hb hR KW
      go_wp2
      refine bodyPost_ret (v := .agg #[.int .u64 R.x, .int .u64 R.y]) ?_ rfl ⟨rfl, ?_⟩
      · simp [results, Try.f15, go_sem]
      · repeat' (first | with_reducible exact Below.refl _ _ | with_reducible assumption | with_reducible apply below_grews | with_reducible apply Below.drew | with_reducible apply Below.alloc | with_reducible apply Below.setCell | (simp [size_grew, -Nat.not_le, -Nat.not_lt] <;> omega))
end Go.Proofs.Ytjgjohonbjmakaa
