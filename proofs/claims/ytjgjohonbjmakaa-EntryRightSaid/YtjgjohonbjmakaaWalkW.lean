/- What single calls do: the reference's words and masks. -/
import Derived.Test.YtjgjohonbjmakaaWalkR
import Derived.Test.YtjgjohonbjmakaaWords
import Derived.Test.YtjgjohonbjmakaaAppB
namespace Go.Proofs.Ytjgjohonbjmakaa
set_option linter.unusedSimpArgs false
set_option linter.unusedVariables false
open Go.RowKit
attribute [local go_sem high] eql_25 neq_25 eql_24 neq_24 eql_27 neq_27 eql_32 neq_32 eql_29 neq_29 eql_34 neq_34 eql_41 neq_41 eql_44 neq_44
attribute [local go_sem ↓ high] yielded_undef
attribute [local go_sem] eqg_25 eqg_24 eqg_27 eqg_32 eqg_29 eqg_34 eqg_41 eqg_44 cell_grew frozen_grew size_grew grew_grew drewN_grew lt_addk size_setW Instr.field asAgg lt_gi_k lt_gi_kh lt_gi_k_k lt_gi_k_kh lt_gi_k_k_k lt_gi_k_k_kh lt_gi_i_k lt_gi_i_kh lt_gi_i_k_k lt_gi_i_k_kh lt_gi_i_k_k_k lt_gi_i_k_k_kh lt_gi_i_i_k lt_gi_i_i_kh lt_gi_i_i_k_k lt_gi_i_i_k_kh lt_gi_i_i_k_k_k lt_gi_i_i_k_k_kh lt_gi_i_i_i_k lt_gi_i_i_i_kh lt_gi_i_i_i_k_k lt_gi_i_i_i_k_kh lt_gi_i_i_i_k_k_k lt_gi_i_i_i_k_k_kh lt_gi_i_i_i_i_k lt_gi_i_i_i_i_kh lt_gi_i_i_i_i_k_k lt_gi_i_i_i_i_k_kh lt_gi_i_i_i_i_k_k_k lt_gi_i_i_i_i_k_k_kh lt_gi_i_i_i_i_i_k lt_gi_i_i_i_i_i_kh lt_gi_i_i_i_i_i_k_k lt_gi_i_i_i_i_i_k_kh lt_gi_i_i_i_i_i_k_k_k lt_gi_i_i_i_i_i_k_k_kh lt_gi_i_i_i_i_i_i_k lt_gi_i_i_i_i_i_i_kh lt_gi_i_i_i_i_i_i_k_k lt_gi_i_i_i_i_i_i_k_kh lt_gi_i_i_i_i_i_i_k_k_k lt_gi_i_i_i_i_i_i_k_k_kh lt_gi_i_i_i_i_i_i_i_k lt_gi_i_i_i_i_i_i_i_kh lt_gi_i_i_i_i_i_i_i_k_k lt_gi_i_i_i_i_i_i_i_k_kh lt_gi_i_i_i_i_i_i_i_k_k_k lt_gi_i_i_i_i_i_i_i_k_k_kh lt_gi_k_i lt_gi_k_ih lt_gi_k_i_k lt_gi_k_i_kh lt_gi_k_k_i lt_gi_k_k_ih lt_gi_k_k_i_k lt_gi_k_k_i_kh lt_gi_k_i_i lt_gi_k_i_ih lt_gi_k_i_i_k lt_gi_k_i_i_kh lt_gi_k_k_i_i lt_gi_k_k_i_ih lt_gi_k_k_i_i_k lt_gi_k_k_i_i_kh lt_gi_k_i_i_i lt_gi_k_i_i_ih lt_gi_k_i_i_i_k lt_gi_k_i_i_i_kh lt_gi_k_k_i_i_i lt_gi_k_k_i_i_ih lt_gi_k_k_i_i_i_k lt_gi_k_k_i_i_i_kh lt_gi_i_k_i lt_gi_i_k_ih lt_gi_i_k_i_k lt_gi_i_k_i_kh lt_gi_i_k_k_i lt_gi_i_k_k_ih lt_gi_i_k_k_i_k lt_gi_i_k_k_i_kh lt_gi_i_k_i_i lt_gi_i_k_i_ih lt_gi_i_k_i_i_k lt_gi_i_k_i_i_kh lt_gi_i_k_k_i_i lt_gi_i_k_k_i_ih lt_gi_i_k_k_i_i_k lt_gi_i_k_k_i_i_kh lt_gi_i_k_i_i_i lt_gi_i_k_i_i_ih lt_gi_i_k_i_i_i_k lt_gi_i_k_i_i_i_kh lt_gi_i_k_k_i_i_i lt_gi_i_k_k_i_i_ih lt_gi_i_k_k_i_i_i_k lt_gi_i_k_k_i_i_i_kh lt_gi_i_i_k_i lt_gi_i_i_k_ih lt_gi_i_i_k_i_k lt_gi_i_i_k_i_kh lt_gi_i_i_k_k_i lt_gi_i_i_k_k_ih lt_gi_i_i_k_k_i_k lt_gi_i_i_k_k_i_kh lt_gi_i_i_k_i_i lt_gi_i_i_k_i_ih lt_gi_i_i_k_i_i_k lt_gi_i_i_k_i_i_kh lt_gi_i_i_k_k_i_i lt_gi_i_i_k_k_i_ih lt_gi_i_i_k_k_i_i_k lt_gi_i_i_k_k_i_i_kh lt_gi_i_i_k_i_i_i lt_gi_i_i_k_i_i_ih lt_gi_i_i_k_i_i_i_k lt_gi_i_i_k_i_i_i_kh lt_gi_i_i_k_k_i_i_i lt_gi_i_i_k_k_i_i_ih lt_gi_i_i_k_k_i_i_i_k lt_gi_i_i_k_k_i_i_i_kh lt_gi_i_i_i_k_i lt_gi_i_i_i_k_ih lt_gi_i_i_i_k_i_k lt_gi_i_i_i_k_i_kh lt_gi_i_i_i_k_k_i lt_gi_i_i_i_k_k_ih lt_gi_i_i_i_k_k_i_k lt_gi_i_i_i_k_k_i_kh lt_gi_i_i_i_k_i_i lt_gi_i_i_i_k_i_ih lt_gi_i_i_i_k_i_i_k lt_gi_i_i_i_k_i_i_kh lt_gi_i_i_i_k_k_i_i lt_gi_i_i_i_k_k_i_ih lt_gi_i_i_i_k_k_i_i_k lt_gi_i_i_i_k_k_i_i_kh lt_gi_i_i_i_k_i_i_i lt_gi_i_i_i_k_i_i_ih lt_gi_i_i_i_k_i_i_i_k lt_gi_i_i_i_k_i_i_i_kh lt_gi_i_i_i_k_k_i_i_i lt_gi_i_i_i_k_k_i_i_ih lt_gi_i_i_i_k_k_i_i_i_k lt_gi_i_i_i_k_k_i_i_i_kh lt_gi_i_i_i_i_k_i lt_gi_i_i_i_i_k_ih lt_gi_i_i_i_i_k_i_k lt_gi_i_i_i_i_k_i_kh lt_gi_i_i_i_i_k_k_i lt_gi_i_i_i_i_k_k_ih lt_gi_i_i_i_i_k_k_i_k lt_gi_i_i_i_i_k_k_i_kh lt_gi_i_i_i_i_k_i_i lt_gi_i_i_i_i_k_i_ih lt_gi_i_i_i_i_k_i_i_k lt_gi_i_i_i_i_k_i_i_kh lt_gi_i_i_i_i_k_k_i_i lt_gi_i_i_i_i_k_k_i_ih lt_gi_i_i_i_i_k_k_i_i_k lt_gi_i_i_i_i_k_k_i_i_kh lt_gi_i_i_i_i_k_i_i_i lt_gi_i_i_i_i_k_i_i_ih lt_gi_i_i_i_i_k_i_i_i_k lt_gi_i_i_i_i_k_i_i_i_kh lt_gi_i_i_i_i_k_k_i_i_i lt_gi_i_i_i_i_k_k_i_i_ih lt_gi_i_i_i_i_k_k_i_i_i_k lt_gi_i_i_i_i_k_k_i_i_i_kh
def bitAt (bs : List Bool) (k : Nat) : Bool := bs.getD k false
theorem bitAt_get {bs : List Bool} {k : Nat} (h : k < bs.length) : bitAt bs k = bs[k] := by
  unfold bitAt
  rw [List.getD_eq_getElem?_getD, List.getElem?_eq_getElem h]; rfl
set_option maxRecDepth 100000 in
set_option maxHeartbeats 4000000 in
theorem c_Words (A : Option Addr) (c : Nat) (bs : List Bool) (hl : bs.length = 128) (w : World) (hr : Reads encB 1 w A bs) :
    Calls Try.prog 38 #[.slice A 128 c] w fun e w' => e = .returned (.agg #[.int .u64 (words (bitAt bs)).x, .int .u64 (words (bitAt bs)).y]) ∧ Below w.heap.size w w' := by
  go_enter Try.func38, Try.ntmps38
  go_wp2
  go_loopw [4] (fun v4 wr => ∃ (k : Nat) (x y : Int), k ≤ 128 ∧ v4 = .int .i64 k ∧ wr = (w.alloc (.cells #[.int .u64 0, .int .u64 0] 24)).alloc (.cells #[.int .u64 x, .int .u64 y] 24) ∧ Hid (x = wTo (bitAt bs) 0 (min k 64)) ∧ Hid (y = wTo (bitAt bs) 64 (k - 64))) (fun i _ => 128 - (intOf i).toNat)
  case atStart => exact ⟨0, 0, 0, by omega, rfl, rfl, rfl, rfl⟩
  case round =>
    obtain ⟨k, x, y, hk, rfl, rfl, H1, H2⟩ := hrel
    by_cases hlt : k < 128
    · have hlt2 : k < bs.length := by omega
      obtain ⟨b, off, rfl, hb, h0⟩ := hr.atB hlt2
      have hbit := bitAt_get hlt2
      by_cases hlo : k < 64
      · have hq : Int.tdiv (k : Int) 64 = 0 := by rw [Int.tdiv_eq_ediv_of_nonneg (by omega)]; omega
        have hw := wrap_two (x := x) (j := k) (f := bitAt bs) (o := 0) (by rw [H1.out]; congr 1; omega) hlo
        have hn : wTo (bitAt bs) 0 (min (k + 1) 64) = 2 * x + (if bs[k] then 1 else 0) := by
          rw [show min (k + 1) 64 = k + 1 by omega, wTo, Nat.zero_add, hbit, H1.out, show min k 64 = k by omega]
        have hy : Hid (y = wTo (bitAt bs) 64 (k + 1 - 64)) := by
          show y = _
          rw [H2.out]; congr 1; omega
        have Hn := Lib.hid hn
        have Hw := Lib.hid hw
        clear hn hw hbit
        cases hc : bs[k] with
        | true =>
          rw [hc] at h0
          have Hc := Lib.hid hc
          clear hc
          go_wp2
          go_roundw
          case rel => exact ⟨k + 1, _, _, by omega, by go_num, rfl, by show _ = _; rw [Hn.out, Hc.out]; simp [Hw.out.1, Hw.out.2]; omega, hy⟩
          case measure => first | (simp [intOf]; done) | (simp [intOf]; omega)
        | false =>
          rw [hc] at h0
          have Hc := Lib.hid hc
          clear hc
          go_wp2
          go_roundw
          case rel => exact ⟨k + 1, _, _, by omega, by go_num, rfl, by show _ = _; rw [Hn.out, Hc.out]; simp [Hw.out.1, Hw.out.2]; omega, hy⟩
          case measure => first | (simp [intOf]; done) | (simp [intOf]; omega)
      · have hq : Int.tdiv (k : Int) 64 = 1 := by rw [Int.tdiv_eq_ediv_of_nonneg (by omega)]; omega
        have hw := wrap_two (x := y) (j := k - 64) (f := bitAt bs) (o := 64) H2.out (by omega)
        have hn : wTo (bitAt bs) 64 (k + 1 - 64) = 2 * y + (if bs[k] then 1 else 0) := by
          rw [show k + 1 - 64 = (k - 64) + 1 by omega, wTo, show 64 + (k - 64) = k by omega, hbit, H2.out]
        have hy : Hid (x = wTo (bitAt bs) 0 (min (k + 1) 64)) := by
          show x = _
          rw [H1.out]; congr 1; omega
        have Hn := Lib.hid hn
        have Hw := Lib.hid hw
        clear hn hw hbit
        cases hc : bs[k] with
        | true =>
          rw [hc] at h0
          have Hc := Lib.hid hc
          clear hc
          go_wp2
          go_roundw
          case rel => exact ⟨k + 1, _, _, by omega, by go_num, rfl, hy, by show _ = _; rw [Hn.out, Hc.out]; simp [Hw.out.1, Hw.out.2]; omega⟩
          case measure => first | (simp [intOf]; done) | (simp [intOf]; omega)
        | false =>
          rw [hc] at h0
          have Hc := Lib.hid hc
          clear hc
          go_wp2
          go_roundw
          case rel => exact ⟨k + 1, _, _, by omega, by go_num, rfl, hy, by show _ = _; rw [Hn.out, Hc.out]; simp [Hw.out.1, Hw.out.2]; omega⟩
          case measure => first | (simp [intOf]; done) | (simp [intOf]; omega)
    · obtain rfl : k = 128 := by omega
      have e1 : x = (words (bitAt bs)).x := H1.out
      have e2 : y = (words (bitAt bs)).y := H2.out
      have E1 := Lib.hid e1
      have E2 := Lib.hid e2
      clear e1 e2 H1 H2
      go_wp2
      refine bodyPost_ret (v := .agg #[.int .u64 x, .int .u64 y]) ?_ rfl ⟨?_, ?_⟩
      · simp [results, Try.f38, go_sem]
      · rw [E1.out, E2.out]
      · repeat' (first | with_reducible exact Below.refl _ _ | with_reducible assumption | with_reducible apply below_grews | with_reducible apply Below.drew | with_reducible apply Below.alloc | with_reducible apply Below.setCell | (simp [size_grew, -Nat.not_le, -Nat.not_lt] <;> omega))
def maskL (n : Int) : List Bool := (List.range 128).map fun (k : Nat) => decide ((k : Int) < n)
theorem maskL_len (n : Int) : (maskL n).length = 128 := by simp [maskL]
theorem maskL_get (n : Int) {k : Nat} (h : k < (maskL n).length) : (maskL n)[k] = decide ((k : Int) < n) := by simp [maskL]
set_option maxRecDepth 100000 in
set_option maxHeartbeats 4000000 in
theorem c_rMask (n : Int) (w : World) :
    Calls Try.prog 18 #[.int .i64 n] w fun e w' => e = .returned (.agg #[.int .u64 (words (bitAt (maskL n))).x, .int .u64 (words (bitAt (maskL n))).y]) ∧ Below w.heap.size w w' := by
  have HW := fun A c W h => c_Words A c (maskL n) (maskL_len n) W h
  have KW := Lib.hid HW
  clear HW
  generalize words (bitAt (maskL n)) = R at KW ⊢
  go_enter Try.func18, Try.ntmps18
  go_wp2
  go_loopw [3, 4] (fun v3 v4 wr => ∃ k : Nat, k ≤ 128 ∧ v4 = .int .i64 k ∧ Hid (wr.ownsRow (w.heap.size + 1) 4 1 v3 k (((maskL n).take k).flatMap encB)) ∧ Hid (Below (w.alloc (.cells #[.int .u64 0, .int .u64 0] 24)).heap.size (w.alloc (.cells #[.int .u64 0, .int .u64 0] 24)) wr)) (fun _ i _ => 128 - (intOf i).toNat)
  case atStart => exact ⟨0, Nat.zero_le _, rfl, World.ownsRow_nil _ _ _ _, Below.refl _ _⟩
  case round =>
    rename_i v3 v4 wr
    obtain ⟨k, hk, rfl, HO, HB⟩ := hrel
    by_cases hlt : k < 128
    · have hlt2 : k < (maskL n).length := by rw [maskL_len]; exact hlt
      go_wp2_with (at_builtin; refine app_one (w.heap.size + 1) 1 1 (.bool false) (by kernel_rfl) (by kernel_rfl) rfl (by omega) rfl rfl rfl (by simp [Act.eval, size_grew]) rfl (by simp [Value.oneCell']) HO.out (by omega) ?hb ?hl ?_)
      case hb => have h9 := HB.out.size; simpa using h9
      case hl => omega
      intro v1 w1 hown hg
      have H1 : Hid (w1.ownsRow (w.heap.size + 1) 4 1 v1 (k + 1) (((maskL n).take (k + 1)).flatMap encB)) := by show World.ownsRow _ _ _ _ _ _ _; rw [rows_snoc encB (maskL n) hlt2, maskL_get]; exact hown
      have H2 : Hid (Below (w.alloc (.cells #[.int .u64 0, .int .u64 0] 24)).heap.size (w.alloc (.cells #[.int .u64 0, .int .u64 0] 24)) w1) := below_own HB.out hg (fun k hk => by have := own_base HO.out k hk; simpa using this)
      clear hown hg HO HB
      go_wp2
      go_roundw
      case rel => exact ⟨k + 1, by omega, by go_num, H1, H2⟩
      case measure => first | (simp [intOf]; done) | (simp [intOf]; omega)
    · obtain rfl : k = 128 := by omega
      obtain ⟨B, d, rfl, _, _⟩ := own_form HO.out
      have hR : Reads encB 1 wr B (maskL n) := (Reads.of_own (enc := encB) (k := 1) (e := 4) (n := 128) (c := d) (fun _ => rfl) (by have h := HO.out; rw [List.take_of_length_le (by rw [maskL_len]; omega)] at h; rw [maskL_len]; exact h)).2
      obtain ⟨q, hq⟩ := below_grew HB.out
      subst hq
      clear HO HB
      go_wp2_with fail
      refine (KW.out _ _ _ hR).mono ?_
      rintro e w' ⟨rfl, hb⟩
      obtain ⟨p, rfl⟩ := below_grew hb
      clear hb hR KW
      go_wp2
      refine bodyPost_ret (v := .agg #[.int .u64 R.x, .int .u64 R.y]) ?_ rfl ⟨rfl, ?_⟩
      · simp [results, Try.f18, go_sem]
      · repeat' (first | with_reducible exact Below.refl _ _ | with_reducible assumption | with_reducible apply below_grews | with_reducible apply Below.drew | with_reducible apply Below.alloc | with_reducible apply Below.setCell | (simp [size_grew, -Nat.not_le, -Nat.not_lt] <;> omega))
end Go.Proofs.Ytjgjohonbjmakaa
