/- What single calls do: the reference's words and masks. -/
import Derived.Test.YtjmnnkhdadoehaaZWalkR
import Derived.Test.YtjmnnkhdadoehaaZSpec
import Derived.Test.YtjmnnkhdadoehaaZAppB
import Derived.Test.YtjmnnkhdadoehaaZPureA
import Derived.Test.YtjmnnkhdadoehaaZWalkA
namespace Go.Proofs.Ytjmnnkhdadoehaa
set_option linter.unusedSimpArgs false
set_option linter.unusedVariables false
open Go.RowKit
attribute [local go_sem high] eql_25 neq_25 eql_24 neq_24 eql_27 neq_27 eql_41 neq_41 eql_29 neq_29 eql_43 neq_43 eql_108 neq_108 eql_61 neq_61 eql_90 neq_90 eql_64 neq_64 eql_104 neq_104 eql_67 neq_67 eql_71 neq_71
attribute [local go_sem ↓ high] yielded_undef
attribute [local go_sem] eqg_25 eqg_24 eqg_27 eqg_41 eqg_29 eqg_43 eqg_108 eqg_61 eqg_90 eqg_64 eqg_104 eqg_67 eqg_71 cell_grew frozen_grew size_grew grew_grew drewN_grew lt_addk size_setW Instr.field asAgg lt_gi_k lt_gi_kh lt_gi_k_k lt_gi_k_kh lt_gi_k_k_k lt_gi_k_k_kh lt_gi_i_k lt_gi_i_kh lt_gi_i_k_k lt_gi_i_k_kh lt_gi_i_k_k_k lt_gi_i_k_k_kh lt_gi_i_i_k lt_gi_i_i_kh lt_gi_i_i_k_k lt_gi_i_i_k_kh lt_gi_i_i_k_k_k lt_gi_i_i_k_k_kh lt_gi_i_i_i_k lt_gi_i_i_i_kh lt_gi_i_i_i_k_k lt_gi_i_i_i_k_kh lt_gi_i_i_i_k_k_k lt_gi_i_i_i_k_k_kh lt_gi_i_i_i_i_k lt_gi_i_i_i_i_kh lt_gi_i_i_i_i_k_k lt_gi_i_i_i_i_k_kh lt_gi_i_i_i_i_k_k_k lt_gi_i_i_i_i_k_k_kh lt_gi_i_i_i_i_i_k lt_gi_i_i_i_i_i_kh lt_gi_i_i_i_i_i_k_k lt_gi_i_i_i_i_i_k_kh lt_gi_i_i_i_i_i_k_k_k lt_gi_i_i_i_i_i_k_k_kh lt_gi_i_i_i_i_i_i_k lt_gi_i_i_i_i_i_i_kh lt_gi_i_i_i_i_i_i_k_k lt_gi_i_i_i_i_i_i_k_kh lt_gi_i_i_i_i_i_i_k_k_k lt_gi_i_i_i_i_i_i_k_k_kh lt_gi_i_i_i_i_i_i_i_k lt_gi_i_i_i_i_i_i_i_kh lt_gi_i_i_i_i_i_i_i_k_k lt_gi_i_i_i_i_i_i_i_k_kh lt_gi_i_i_i_i_i_i_i_k_k_k lt_gi_i_i_i_i_i_i_i_k_k_kh lt_gi_k_i lt_gi_k_ih lt_gi_k_i_k lt_gi_k_i_kh lt_gi_k_k_i lt_gi_k_k_ih lt_gi_k_k_i_k lt_gi_k_k_i_kh lt_gi_k_i_i lt_gi_k_i_ih lt_gi_k_i_i_k lt_gi_k_i_i_kh lt_gi_k_k_i_i lt_gi_k_k_i_ih lt_gi_k_k_i_i_k lt_gi_k_k_i_i_kh lt_gi_k_i_i_i lt_gi_k_i_i_ih lt_gi_k_i_i_i_k lt_gi_k_i_i_i_kh lt_gi_k_k_i_i_i lt_gi_k_k_i_i_ih lt_gi_k_k_i_i_i_k lt_gi_k_k_i_i_i_kh lt_gi_i_k_i lt_gi_i_k_ih lt_gi_i_k_i_k lt_gi_i_k_i_kh lt_gi_i_k_k_i lt_gi_i_k_k_ih lt_gi_i_k_k_i_k lt_gi_i_k_k_i_kh lt_gi_i_k_i_i lt_gi_i_k_i_ih lt_gi_i_k_i_i_k lt_gi_i_k_i_i_kh lt_gi_i_k_k_i_i lt_gi_i_k_k_i_ih lt_gi_i_k_k_i_i_k lt_gi_i_k_k_i_i_kh lt_gi_i_k_i_i_i lt_gi_i_k_i_i_ih lt_gi_i_k_i_i_i_k lt_gi_i_k_i_i_i_kh lt_gi_i_k_k_i_i_i lt_gi_i_k_k_i_i_ih lt_gi_i_k_k_i_i_i_k lt_gi_i_k_k_i_i_i_kh lt_gi_i_i_k_i lt_gi_i_i_k_ih lt_gi_i_i_k_i_k lt_gi_i_i_k_i_kh lt_gi_i_i_k_k_i lt_gi_i_i_k_k_ih lt_gi_i_i_k_k_i_k lt_gi_i_i_k_k_i_kh lt_gi_i_i_k_i_i lt_gi_i_i_k_i_ih lt_gi_i_i_k_i_i_k lt_gi_i_i_k_i_i_kh lt_gi_i_i_k_k_i_i lt_gi_i_i_k_k_i_ih lt_gi_i_i_k_k_i_i_k lt_gi_i_i_k_k_i_i_kh lt_gi_i_i_k_i_i_i lt_gi_i_i_k_i_i_ih lt_gi_i_i_k_i_i_i_k lt_gi_i_i_k_i_i_i_kh lt_gi_i_i_k_k_i_i_i lt_gi_i_i_k_k_i_i_ih lt_gi_i_i_k_k_i_i_i_k lt_gi_i_i_k_k_i_i_i_kh lt_gi_i_i_i_k_i lt_gi_i_i_i_k_ih lt_gi_i_i_i_k_i_k lt_gi_i_i_i_k_i_kh lt_gi_i_i_i_k_k_i lt_gi_i_i_i_k_k_ih lt_gi_i_i_i_k_k_i_k lt_gi_i_i_i_k_k_i_kh lt_gi_i_i_i_k_i_i lt_gi_i_i_i_k_i_ih lt_gi_i_i_i_k_i_i_k lt_gi_i_i_i_k_i_i_kh lt_gi_i_i_i_k_k_i_i lt_gi_i_i_i_k_k_i_ih lt_gi_i_i_i_k_k_i_i_k lt_gi_i_i_i_k_k_i_i_kh lt_gi_i_i_i_k_i_i_i lt_gi_i_i_i_k_i_i_ih lt_gi_i_i_i_k_i_i_i_k lt_gi_i_i_i_k_i_i_i_kh lt_gi_i_i_i_k_k_i_i_i lt_gi_i_i_i_k_k_i_i_ih lt_gi_i_i_i_k_k_i_i_i_k lt_gi_i_i_i_k_k_i_i_i_kh lt_gi_i_i_i_i_k_i lt_gi_i_i_i_i_k_ih lt_gi_i_i_i_i_k_i_k lt_gi_i_i_i_i_k_i_kh lt_gi_i_i_i_i_k_k_i lt_gi_i_i_i_i_k_k_ih lt_gi_i_i_i_i_k_k_i_k lt_gi_i_i_i_i_k_k_i_kh lt_gi_i_i_i_i_k_i_i lt_gi_i_i_i_i_k_i_ih lt_gi_i_i_i_i_k_i_i_k lt_gi_i_i_i_i_k_i_i_kh lt_gi_i_i_i_i_k_k_i_i lt_gi_i_i_i_i_k_k_i_ih lt_gi_i_i_i_i_k_k_i_i_k lt_gi_i_i_i_i_k_k_i_i_kh lt_gi_i_i_i_i_k_i_i_i lt_gi_i_i_i_i_k_i_i_ih lt_gi_i_i_i_i_k_i_i_i_k lt_gi_i_i_i_i_k_i_i_i_kh lt_gi_i_i_i_i_k_k_i_i_i lt_gi_i_i_i_i_k_k_i_i_ih lt_gi_i_i_i_i_k_k_i_i_i_k lt_gi_i_i_i_i_k_k_i_i_i_kh
def bitAt (bs : List Bool) (k : Nat) : Bool := bs.getD k false
theorem bitAt_get {bs : List Bool} {k : Nat} (h : k < bs.length) : bitAt bs k = bs[k] := by
  unfold bitAt
  rw [List.getD_eq_getElem?_getD, List.getElem?_eq_getElem h]; rfl
set_option maxRecDepth 100000 in
set_option maxHeartbeats 4000000 in
theorem c_Words (A : Option Addr) (c : Nat) (bs : List Bool) (hl : bs.length = 128) (w : World) (hr : Reads encB 1 w A bs) :
    Calls Try.prog 104 #[.slice A 128 c] w fun e w' => e = .returned (.agg #[.int .u64 (words (bitAt bs)).x, .int .u64 (words (bitAt bs)).y]) ∧ Below w.heap.size w w' := by
  go_enter Try.func104, Try.ntmps104
  go_wp2
  go_loopw [4] (fun v4 wr => ∃ (k : Nat) (x y : Int), k ≤ 128 ∧ v4 = .int .i64 k ∧ wr = (w.alloc (.cells #[.int .u64 0, .int .u64 0] 24)).alloc (.cells #[.int .u64 x, .int .u64 y] 24) ∧ Hid (x = wTo (bitAt bs) 0 (min k 64)) ∧ Hid (y = wTo (bitAt bs) 64 (k - 64))) (fun i _ => 128 - (intOf i).toNat)
  case atStart => exact ⟨0, 0, 0, by omega, rfl, rfl, rfl, rfl⟩
  case round =>
    obtain ⟨k, x, y, hk, rfl, rfl, H1, H2⟩ := hrel
    by_cases hlt : k < 128
    · have hlt2 : k < bs.length := by omega
      obtain ⟨b, off, rfl, hb, h0⟩ := hr.atB hlt2
      have hbit := bitAt_get hlt2
      by_cases hlo : k < 64
      · have hq : Int.tdiv (k : Int) 64 = 0 := by rw [Int.tdiv_eq_ediv_of_nonneg (by omega)]; omega
        have hw := wrap_two (x := x) (j := k) (f := bitAt bs) (o := 0) (by rw [H1.out]; congr 1; omega) hlo
        have hn : wTo (bitAt bs) 0 (min (k + 1) 64) = 2 * x + (if bs[k] then 1 else 0) := by
          rw [show min (k + 1) 64 = k + 1 by omega, wTo, Nat.zero_add, hbit, H1.out, show min k 64 = k by omega]
        have hy : Hid (y = wTo (bitAt bs) 64 (k + 1 - 64)) := by
          show y = _
          rw [H2.out]; congr 1; omega
        have Hn := Lib.hid hn
        have Hw := Lib.hid hw
        clear hn hw hbit
        cases hc : bs[k] with
        | true =>
          rw [hc] at h0
          have Hc := Lib.hid hc
          clear hc
          go_wp2
          go_roundw
          case rel => exact ⟨k + 1, _, _, by omega, by go_num, rfl, by show _ = _; rw [Hn.out, Hc.out]; simp [Hw.out.1, Hw.out.2]; omega, hy⟩
          case measure => first | (simp [intOf]; done) | (simp [intOf]; omega)
        | false =>
          rw [hc] at h0
          have Hc := Lib.hid hc
          clear hc
          go_wp2
          go_roundw
          case rel => exact ⟨k + 1, _, _, by omega, by go_num, rfl, by show _ = _; rw [Hn.out, Hc.out]; simp [Hw.out.1, Hw.out.2]; omega, hy⟩
          case measure => first | (simp [intOf]; done) | (simp [intOf]; omega)
      · have hq : Int.tdiv (k : Int) 64 = 1 := by rw [Int.tdiv_eq_ediv_of_nonneg (by omega)]; omega
        have hw := wrap_two (x := y) (j := k - 64) (f := bitAt bs) (o := 64) H2.out (by omega)
        have hn : wTo (bitAt bs) 64 (k + 1 - 64) = 2 * y + (if bs[k] then 1 else 0) := by
          rw [show k + 1 - 64 = (k - 64) + 1 by omega, wTo, show 64 + (k - 64) = k by omega, hbit, H2.out]
        have hy : Hid (x = wTo (bitAt bs) 0 (min (k + 1) 64)) := by
          show x = _
          rw [H1.out]; congr 1; omega
        have Hn := Lib.hid hn
        have Hw := Lib.hid hw
        clear hn hw hbit
        cases hc : bs[k] with
        | true =>
          rw [hc] at h0
          have Hc := Lib.hid hc
          clear hc
          go_wp2
          go_roundw
          case rel => exact ⟨k + 1, _, _, by omega, by go_num, rfl, hy, by show _ = _; rw [Hn.out, Hc.out]; simp [Hw.out.1, Hw.out.2]; omega⟩
          case measure => first | (simp [intOf]; done) | (simp [intOf]; omega)
        | false =>
          rw [hc] at h0
          have Hc := Lib.hid hc
          clear hc
          go_wp2
          go_roundw
          case rel => exact ⟨k + 1, _, _, by omega, by go_num, rfl, hy, by show _ = _; rw [Hn.out, Hc.out]; simp [Hw.out.1, Hw.out.2]; omega⟩
          case measure => first | (simp [intOf]; done) | (simp [intOf]; omega)
    · obtain rfl : k = 128 := by omega
      have e1 : x = (words (bitAt bs)).x := H1.out
      have e2 : y = (words (bitAt bs)).y := H2.out
      have E1 := Lib.hid e1
      have E2 := Lib.hid e2
      clear e1 e2 H1 H2
      go_wp2
      refine bodyPost_ret (v := .agg #[.int .u64 x, .int .u64 y]) ?_ rfl ⟨?_, ?_⟩
      · simp [results, Try.f104, go_sem]
      · rw [E1.out, E2.out]
      · repeat' (first | with_reducible exact Below.refl _ _ | with_reducible assumption | with_reducible apply below_grews | with_reducible apply Below.drew | with_reducible apply Below.alloc | with_reducible apply Below.setCell | (simp [size_grew, -Nat.not_le, -Nat.not_lt] <;> omega))
end Go.Proofs.Ytjmnnkhdadoehaa

/- What single calls do: the reference's operation bit by bit. -/
namespace Go.Proofs.Ytjmnnkhdadoehaa
set_option linter.unusedSimpArgs false
set_option linter.unusedVariables false
open Go.RowKit
attribute [local go_sem high] eql_25 neq_25 eql_24 neq_24 eql_27 neq_27 eql_41 neq_41 eql_29 neq_29 eql_43 neq_43 eql_108 neq_108 eql_61 neq_61 eql_90 neq_90 eql_64 neq_64 eql_104 neq_104 eql_67 neq_67 eql_71 neq_71
attribute [local go_sem ↓ high] yielded_undef
attribute [local go_sem] eqg_25 eqg_24 eqg_27 eqg_41 eqg_29 eqg_43 eqg_108 eqg_61 eqg_90 eqg_64 eqg_104 eqg_67 eqg_71 cell_grew frozen_grew size_grew grew_grew drewN_grew lt_addk size_setW Instr.field asAgg lt_gi_k lt_gi_kh lt_gi_k_k lt_gi_k_kh lt_gi_k_k_k lt_gi_k_k_kh lt_gi_i_k lt_gi_i_kh lt_gi_i_k_k lt_gi_i_k_kh lt_gi_i_k_k_k lt_gi_i_k_k_kh lt_gi_i_i_k lt_gi_i_i_kh lt_gi_i_i_k_k lt_gi_i_i_k_kh lt_gi_i_i_k_k_k lt_gi_i_i_k_k_kh lt_gi_i_i_i_k lt_gi_i_i_i_kh lt_gi_i_i_i_k_k lt_gi_i_i_i_k_kh lt_gi_i_i_i_k_k_k lt_gi_i_i_i_k_k_kh lt_gi_i_i_i_i_k lt_gi_i_i_i_i_kh lt_gi_i_i_i_i_k_k lt_gi_i_i_i_i_k_kh lt_gi_i_i_i_i_k_k_k lt_gi_i_i_i_i_k_k_kh lt_gi_i_i_i_i_i_k lt_gi_i_i_i_i_i_kh lt_gi_i_i_i_i_i_k_k lt_gi_i_i_i_i_i_k_kh lt_gi_i_i_i_i_i_k_k_k lt_gi_i_i_i_i_i_k_k_kh lt_gi_i_i_i_i_i_i_k lt_gi_i_i_i_i_i_i_kh lt_gi_i_i_i_i_i_i_k_k lt_gi_i_i_i_i_i_i_k_kh lt_gi_i_i_i_i_i_i_k_k_k lt_gi_i_i_i_i_i_i_k_k_kh lt_gi_i_i_i_i_i_i_i_k lt_gi_i_i_i_i_i_i_i_kh lt_gi_i_i_i_i_i_i_i_k_k lt_gi_i_i_i_i_i_i_i_k_kh lt_gi_i_i_i_i_i_i_i_k_k_k lt_gi_i_i_i_i_i_i_i_k_k_kh lt_gi_k_i lt_gi_k_ih lt_gi_k_i_k lt_gi_k_i_kh lt_gi_k_k_i lt_gi_k_k_ih lt_gi_k_k_i_k lt_gi_k_k_i_kh lt_gi_k_i_i lt_gi_k_i_ih lt_gi_k_i_i_k lt_gi_k_i_i_kh lt_gi_k_k_i_i lt_gi_k_k_i_ih lt_gi_k_k_i_i_k lt_gi_k_k_i_i_kh lt_gi_k_i_i_i lt_gi_k_i_i_ih lt_gi_k_i_i_i_k lt_gi_k_i_i_i_kh lt_gi_k_k_i_i_i lt_gi_k_k_i_i_ih lt_gi_k_k_i_i_i_k lt_gi_k_k_i_i_i_kh lt_gi_i_k_i lt_gi_i_k_ih lt_gi_i_k_i_k lt_gi_i_k_i_kh lt_gi_i_k_k_i lt_gi_i_k_k_ih lt_gi_i_k_k_i_k lt_gi_i_k_k_i_kh lt_gi_i_k_i_i lt_gi_i_k_i_ih lt_gi_i_k_i_i_k lt_gi_i_k_i_i_kh lt_gi_i_k_k_i_i lt_gi_i_k_k_i_ih lt_gi_i_k_k_i_i_k lt_gi_i_k_k_i_i_kh lt_gi_i_k_i_i_i lt_gi_i_k_i_i_ih lt_gi_i_k_i_i_i_k lt_gi_i_k_i_i_i_kh lt_gi_i_k_k_i_i_i lt_gi_i_k_k_i_i_ih lt_gi_i_k_k_i_i_i_k lt_gi_i_k_k_i_i_i_kh lt_gi_i_i_k_i lt_gi_i_i_k_ih lt_gi_i_i_k_i_k lt_gi_i_i_k_i_kh lt_gi_i_i_k_k_i lt_gi_i_i_k_k_ih lt_gi_i_i_k_k_i_k lt_gi_i_i_k_k_i_kh lt_gi_i_i_k_i_i lt_gi_i_i_k_i_ih lt_gi_i_i_k_i_i_k lt_gi_i_i_k_i_i_kh lt_gi_i_i_k_k_i_i lt_gi_i_i_k_k_i_ih lt_gi_i_i_k_k_i_i_k lt_gi_i_i_k_k_i_i_kh lt_gi_i_i_k_i_i_i lt_gi_i_i_k_i_i_ih lt_gi_i_i_k_i_i_i_k lt_gi_i_i_k_i_i_i_kh lt_gi_i_i_k_k_i_i_i lt_gi_i_i_k_k_i_i_ih lt_gi_i_i_k_k_i_i_i_k lt_gi_i_i_k_k_i_i_i_kh lt_gi_i_i_i_k_i lt_gi_i_i_i_k_ih lt_gi_i_i_i_k_i_k lt_gi_i_i_i_k_i_kh lt_gi_i_i_i_k_k_i lt_gi_i_i_i_k_k_ih lt_gi_i_i_i_k_k_i_k lt_gi_i_i_i_k_k_i_kh lt_gi_i_i_i_k_i_i lt_gi_i_i_i_k_i_ih lt_gi_i_i_i_k_i_i_k lt_gi_i_i_i_k_i_i_kh lt_gi_i_i_i_k_k_i_i lt_gi_i_i_i_k_k_i_ih lt_gi_i_i_i_k_k_i_i_k lt_gi_i_i_i_k_k_i_i_kh lt_gi_i_i_i_k_i_i_i lt_gi_i_i_i_k_i_i_ih lt_gi_i_i_i_k_i_i_i_k lt_gi_i_i_i_k_i_i_i_kh lt_gi_i_i_i_k_k_i_i_i lt_gi_i_i_i_k_k_i_i_ih lt_gi_i_i_i_k_k_i_i_i_k lt_gi_i_i_i_k_k_i_i_i_kh lt_gi_i_i_i_i_k_i lt_gi_i_i_i_i_k_ih lt_gi_i_i_i_i_k_i_k lt_gi_i_i_i_i_k_i_kh lt_gi_i_i_i_i_k_k_i lt_gi_i_i_i_i_k_k_ih lt_gi_i_i_i_i_k_k_i_k lt_gi_i_i_i_i_k_k_i_kh lt_gi_i_i_i_i_k_i_i lt_gi_i_i_i_i_k_i_ih lt_gi_i_i_i_i_k_i_i_k lt_gi_i_i_i_i_k_i_i_kh lt_gi_i_i_i_i_k_k_i_i lt_gi_i_i_i_i_k_k_i_ih lt_gi_i_i_i_i_k_k_i_i_k lt_gi_i_i_i_i_k_k_i_i_kh lt_gi_i_i_i_i_k_i_i_i lt_gi_i_i_i_i_k_i_i_ih lt_gi_i_i_i_i_k_i_i_i_k lt_gi_i_i_i_i_k_i_i_i_kh lt_gi_i_i_i_i_k_k_i_i_i lt_gi_i_i_i_i_k_k_i_i_ih lt_gi_i_i_i_i_k_k_i_i_i_k lt_gi_i_i_i_i_k_k_i_i_i_kh
def andL (a b : A2) : List Bool := (List.range 128).map fun (k : Nat) => abit a k && abit b k
theorem andL_len (a b : A2) : (andL a b).length = 128 := by simp [andL]
theorem andL_get (a b : A2) {k : Nat} (h : k < (andL a b).length) : (andL a b)[k] = (abit a k && abit b k) := by simp [andL]
set_option maxRecDepth 100000 in
set_option maxHeartbeats 4000000 in
theorem c_rAnd (a0 a1 b0 b1 : Int) (h1 : A2.ok ⟨a0, a1⟩) (h2 : A2.ok ⟨b0, b1⟩) (w : World) :
    Calls Try.prog 84 #[.int .i64 0, .agg #[.int .u64 a0, .int .u64 a1], .agg #[.int .u64 b0, .int .u64 b1]] w fun e w' => e = .returned (.agg #[.int .u64 (words (bitAt (andL ⟨a0, a1⟩ ⟨b0, b1⟩))).x, .int .u64 (words (bitAt (andL ⟨a0, a1⟩ ⟨b0, b1⟩))).y]) ∧ Below w.heap.size w w' := by
  have HW := fun A c W h => c_Words A c (andL ⟨a0, a1⟩ ⟨b0, b1⟩) (andL_len _ _) W h
  have KW := Lib.hid HW
  clear HW
  generalize words (bitAt (andL ⟨a0, a1⟩ ⟨b0, b1⟩)) = R at KW ⊢
  obtain ⟨L, hL⟩ : ∃ L, L = andL ⟨a0, a1⟩ ⟨b0, b1⟩ := ⟨_, rfl⟩
  have hLl : L.length = 128 := by rw [hL]; exact andL_len _ _
  have hLg : ∀ k (h : k < L.length), L[k] = (abit ⟨a0, a1⟩ k && abit ⟨b0, b1⟩ k) := by subst hL; exact fun k h => andL_get _ _ h
  rw [← hL] at KW
  clear hL
  have HLg := Lib.hid hLg
  clear hLg
  go_enter Try.func84, Try.ntmps84
  go_wp2_with fail
  refine (c_Bits _ _ h1 _).mono ?_
  rintro e w' ⟨x1, rfl, g1, r1, l1⟩
  obtain ⟨p1, rfl⟩ := below_grew l1
  clear l1 g1
  go_wp2_with fail
  refine (c_Bits _ _ h2 _).mono ?_
  rintro e w' ⟨x2, rfl, g2, r2, l2⟩
  obtain ⟨p2, rfl⟩ := below_grew l2
  clear l2 g2
  replace r1 := rowIs_grew r1 p2
  simp only [grew_grew, Array.append_assoc] at r1 r2
  go_wp2_with fail
  have z1 := r1.lt
  have z2 := r2.lt
  obtain ⟨W0, hW0⟩ : ∃ W0, W0 = ((w.alloc (.cells #[.int .u64 a0, .int .u64 a1] 24)).alloc (.cells #[.int .u64 b0, .int .u64 b1] 24)).alloc (.cells #[.int .u64 0, .int .u64 0] 24) := ⟨_, rfl⟩
  rw [← hW0] at r1 r2 z1 z2 ⊢
  have HW0 := Lib.hid hW0
  clear hW0
  go_loopw [9, 10] (fun v9 v10 wr => ∃ k : Nat, k ≤ 128 ∧ v10 = .int .i64 k ∧ Hid (wr.ownsRow (W0.heap.size + (p1.os.size + p2.os.size)) 4 1 v9 k ((L.take k).flatMap encB)) ∧ Hid (Below (grew W0 ⟨p2.d, p1.os ++ p2.os⟩).heap.size (grew W0 ⟨p2.d, p1.os ++ p2.os⟩) wr)) (fun _ i _ => 128 - (intOf i).toNat)
  case atStart => exact ⟨0, Nat.zero_le _, rfl, World.ownsRow_nil _ _ _ _, Below.refl _ _⟩
  case round =>
    rename_i v9 v10 wr
    obtain ⟨k, hk, rfl, HO, HB⟩ := hrel
    by_cases hlt : k < 128
    · have hlt2 : k < L.length := by rw [hLl]; exact hlt
      have s1 : wr.rowIs x1 4 128 (fun i => .bool (abit ⟨a0, a1⟩ i)) := r1.of_block (HB.out.block x1 r1.lt)
      have s2 : wr.rowIs x2 4 128 (fun i => .bool (abit ⟨b0, b1⟩ i)) := r2.of_block (HB.out.block x2 r2.lt)
      have c1 := s1.cell hlt
      have c2 := s2.cell hlt
      have y1 := s1.lt
      have y2 := s2.lt
      have hg := HLg.out k hlt2
      generalize abit ⟨a0, a1⟩ k = u at c1 hg
      generalize abit ⟨b0, b1⟩ k = v at c2 hg
      have Hg := Lib.hid hg
      clear hg s1 s2 r1 r2
      have hsz : W0.heap.size + (p1.os.size + p2.os.size) ≤ wr.heap.size := by have := HB.out.size; simpa [size_grew] using this
      cases u <;> cases v
      all_goals
        go_wp2_with (at_builtin; refine app_one (W0.heap.size + (p1.os.size + p2.os.size)) 1 1 (.bool false) (by kernel_rfl) (by kernel_rfl) rfl (by omega) rfl rfl rfl (by simp [Act.eval, size_grew]) rfl (by simp [Value.oneCell']) HO.out (by omega) hsz ?hl ?_)
        case hl => omega
        intro v1 w1 hown hg
        have H1 : Hid (w1.ownsRow (W0.heap.size + (p1.os.size + p2.os.size)) 4 1 v1 (k + 1) ((L.take (k + 1)).flatMap encB)) := by show World.ownsRow _ _ _ _ _ _ _; rw [rows_snoc encB L hlt2, Hg.out]; exact hown
        have H2 : Hid (Below (grew W0 ⟨p2.d, p1.os ++ p2.os⟩).heap.size (grew W0 ⟨p2.d, p1.os ++ p2.os⟩) w1) := below_own HB.out hg (fun k hk => by have := own_base HO.out k hk; simpa [size_grew] using this)
        clear hown hg HO HB
        go_wp2
        go_roundw
        case rel => exact ⟨k + 1, by omega, by go_num, H1, H2⟩
        case measure => first | (simp [intOf]; done) | (simp [intOf]; omega)
    · obtain rfl : k = 128 := by omega
      obtain ⟨B, d, rfl, _, _⟩ := own_form HO.out
      have hR : Reads encB 1 wr B L := (Reads.of_own (enc := encB) (k := 1) (e := 4) (base := (W0.heap.size + (p1.os.size + p2.os.size))) (n := 128) (c := d) (fun _ => rfl) (by have h := HO.out; rw [List.take_of_length_le (by omega)] at h; rw [hLl]; exact h)).2
      obtain ⟨q, hq⟩ := below_grew HB.out
      clear HO HB r1 r2
      have hW0 := HW0.out
      clear HW0
      subst hq hW0
      go_wp2_with fail
      refine (KW.out _ _ _ ?rr).mono ?_
      case rr => simpa only [grew_grew, Array.append_assoc] using hR
      rintro e w' ⟨rfl, hb⟩
      obtain ⟨p, rfl⟩ := below_grew hb
      clear hb hR KW
      go_wp2
      refine bodyPost_ret (v := .agg #[.int .u64 R.x, .int .u64 R.y]) ?_ rfl ⟨rfl, ?_⟩
      · simp [results, Try.f84, go_sem]
      · repeat' (first | with_reducible exact Below.refl _ _ | with_reducible assumption | with_reducible apply below_grews | with_reducible apply Below.drew | with_reducible apply Below.alloc | with_reducible apply Below.setCell | (simp [size_grew, -Nat.not_le, -Nat.not_lt] <;> omega))
end Go.Proofs.Ytjmnnkhdadoehaa

/- Words out of bits, masks: in plain Lean. -/
namespace Go.Proofs.Ytjmnnkhdadoehaa
set_option linter.unusedSimpArgs false
set_option linter.unusedVariables false
open Go
theorem wbit_twice (x : Int) (b : Bool) : wbit (2 * x + (if b then 1 else 0)) 0 = b := by
  unfold wbit
  cases b <;> simp <;> omega
theorem wbit_twice' (x : Int) (b : Bool) (m : Nat) : wbit (2 * x + (if b then 1 else 0)) (m + 1) = wbit x m := by
  unfold wbit
  have e : (2 * x + (if b then 1 else 0)) / 2 ^ (m + 1) = x / 2 ^ m := by
    rw [Int.pow_succ, Int.mul_comm (2 ^ m) 2, ← Int.ediv_ediv_of_nonneg (by omega : (0 : Int) ≤ 2)]
    congr 1
    cases b <;> simp <;> omega
  rw [e]
theorem wTo_bit (f : Nat → Bool) (o : Nat) : ∀ (j i : Nat), i < j → wbit (wTo f o j) (j - 1 - i) = f (o + i)
  | 0, i, h => by omega
  | j + 1, i, h => by
    rw [wTo]
    by_cases e : i = j
    · subst e
      rw [show i + 1 - 1 - i = 0 by omega]
      exact wbit_twice _ _
    · rw [show j + 1 - 1 - i = (j - 1 - i) + 1 by omega, wbit_twice']
      exact wTo_bit f o j i (by omega)
theorem words_ok (f : Nat → Bool) : (words f).ok := ⟨wTo_U f 0 64 (by omega), wTo_U f 64 64 (by omega)⟩
theorem words_bit (f : Nat → Bool) {i : Nat} (h : i < 128) : abit (words f) i = f i := by
  unfold abit words
  by_cases h2 : i < 64
  · rw [if_pos h2]
    have := wTo_bit f 0 64 i h2
    rwa [Nat.zero_add] at this
  · rw [if_neg h2]
    have := wTo_bit f 64 64 (i - 64) (by omega)
    rw [show 64 - 1 - (i - 64) = 127 - i by omega, show 64 + (i - 64) = i by omega] at this
    exact this
theorem words_and {a b : A2} (ha : a.ok) (hb : b.ok) : words (bitAt (andL a b)) = aAnd a b := by
  refine ok_ext (words_ok _) (ok_and ha hb) fun i hi => ?_
  rw [words_bit _ hi, abit_and ha hb, bitAt_get (by rw [andL_len]; exact hi), andL_get]
theorem U_max : U IntKind.u64.max := by unfold U; decide
theorem max_div (k : Nat) : (18446744073709551615 : Int) / 2 ^ k = ((18446744073709551615 / 2 ^ k : Nat) : Int) := by
  simp
theorem U_maxdiv (k : Nat) : U (18446744073709551615 / 2 ^ k) := by
  rw [max_div]
  have : 18446744073709551615 / 2 ^ k ≤ 18446744073709551615 := Nat.div_le_self _ _
  exact ⟨Int.natCast_nonneg _, Int.ofNat_lt.2 (Nat.lt_of_le_of_lt this (by decide))⟩
theorem maskW_U (k : Int) : U (maskW k) := by
  unfold maskW
  exact U_xor U_max (U_maxdiv _)
theorem mask_ok (n : Int) : (aMask n).ok := by
  unfold aMask
  (repeat' split) <;> exact ⟨maskW_U _, maskW_U _⟩
end Go.Proofs.Ytjmnnkhdadoehaa

/- What single calls do: the reference's masks and prefixes. -/
namespace Go.Proofs.Ytjmnnkhdadoehaa
set_option linter.unusedSimpArgs false
set_option linter.unusedVariables false
open Go.RowKit
attribute [local go_sem high] eql_25 neq_25 eql_24 neq_24 eql_27 neq_27 eql_41 neq_41 eql_29 neq_29 eql_43 neq_43 eql_108 neq_108 eql_61 neq_61 eql_90 neq_90 eql_64 neq_64 eql_104 neq_104 eql_67 neq_67 eql_71 neq_71
attribute [local go_sem ↓ high] yielded_undef
attribute [local go_sem] eqg_25 eqg_24 eqg_27 eqg_41 eqg_29 eqg_43 eqg_108 eqg_61 eqg_90 eqg_64 eqg_104 eqg_67 eqg_71 cell_grew frozen_grew size_grew grew_grew drewN_grew lt_addk size_setW Instr.field asAgg lt_gi_k lt_gi_kh lt_gi_k_k lt_gi_k_kh lt_gi_k_k_k lt_gi_k_k_kh lt_gi_i_k lt_gi_i_kh lt_gi_i_k_k lt_gi_i_k_kh lt_gi_i_k_k_k lt_gi_i_k_k_kh lt_gi_i_i_k lt_gi_i_i_kh lt_gi_i_i_k_k lt_gi_i_i_k_kh lt_gi_i_i_k_k_k lt_gi_i_i_k_k_kh lt_gi_i_i_i_k lt_gi_i_i_i_kh lt_gi_i_i_i_k_k lt_gi_i_i_i_k_kh lt_gi_i_i_i_k_k_k lt_gi_i_i_i_k_k_kh lt_gi_i_i_i_i_k lt_gi_i_i_i_i_kh lt_gi_i_i_i_i_k_k lt_gi_i_i_i_i_k_kh lt_gi_i_i_i_i_k_k_k lt_gi_i_i_i_i_k_k_kh lt_gi_i_i_i_i_i_k lt_gi_i_i_i_i_i_kh lt_gi_i_i_i_i_i_k_k lt_gi_i_i_i_i_i_k_kh lt_gi_i_i_i_i_i_k_k_k lt_gi_i_i_i_i_i_k_k_kh lt_gi_i_i_i_i_i_i_k lt_gi_i_i_i_i_i_i_kh lt_gi_i_i_i_i_i_i_k_k lt_gi_i_i_i_i_i_i_k_kh lt_gi_i_i_i_i_i_i_k_k_k lt_gi_i_i_i_i_i_i_k_k_kh lt_gi_i_i_i_i_i_i_i_k lt_gi_i_i_i_i_i_i_i_kh lt_gi_i_i_i_i_i_i_i_k_k lt_gi_i_i_i_i_i_i_i_k_kh lt_gi_i_i_i_i_i_i_i_k_k_k lt_gi_i_i_i_i_i_i_i_k_k_kh lt_gi_k_i lt_gi_k_ih lt_gi_k_i_k lt_gi_k_i_kh lt_gi_k_k_i lt_gi_k_k_ih lt_gi_k_k_i_k lt_gi_k_k_i_kh lt_gi_k_i_i lt_gi_k_i_ih lt_gi_k_i_i_k lt_gi_k_i_i_kh lt_gi_k_k_i_i lt_gi_k_k_i_ih lt_gi_k_k_i_i_k lt_gi_k_k_i_i_kh lt_gi_k_i_i_i lt_gi_k_i_i_ih lt_gi_k_i_i_i_k lt_gi_k_i_i_i_kh lt_gi_k_k_i_i_i lt_gi_k_k_i_i_ih lt_gi_k_k_i_i_i_k lt_gi_k_k_i_i_i_kh lt_gi_i_k_i lt_gi_i_k_ih lt_gi_i_k_i_k lt_gi_i_k_i_kh lt_gi_i_k_k_i lt_gi_i_k_k_ih lt_gi_i_k_k_i_k lt_gi_i_k_k_i_kh lt_gi_i_k_i_i lt_gi_i_k_i_ih lt_gi_i_k_i_i_k lt_gi_i_k_i_i_kh lt_gi_i_k_k_i_i lt_gi_i_k_k_i_ih lt_gi_i_k_k_i_i_k lt_gi_i_k_k_i_i_kh lt_gi_i_k_i_i_i lt_gi_i_k_i_i_ih lt_gi_i_k_i_i_i_k lt_gi_i_k_i_i_i_kh lt_gi_i_k_k_i_i_i lt_gi_i_k_k_i_i_ih lt_gi_i_k_k_i_i_i_k lt_gi_i_k_k_i_i_i_kh lt_gi_i_i_k_i lt_gi_i_i_k_ih lt_gi_i_i_k_i_k lt_gi_i_i_k_i_kh lt_gi_i_i_k_k_i lt_gi_i_i_k_k_ih lt_gi_i_i_k_k_i_k lt_gi_i_i_k_k_i_kh lt_gi_i_i_k_i_i lt_gi_i_i_k_i_ih lt_gi_i_i_k_i_i_k lt_gi_i_i_k_i_i_kh lt_gi_i_i_k_k_i_i lt_gi_i_i_k_k_i_ih lt_gi_i_i_k_k_i_i_k lt_gi_i_i_k_k_i_i_kh lt_gi_i_i_k_i_i_i lt_gi_i_i_k_i_i_ih lt_gi_i_i_k_i_i_i_k lt_gi_i_i_k_i_i_i_kh lt_gi_i_i_k_k_i_i_i lt_gi_i_i_k_k_i_i_ih lt_gi_i_i_k_k_i_i_i_k lt_gi_i_i_k_k_i_i_i_kh lt_gi_i_i_i_k_i lt_gi_i_i_i_k_ih lt_gi_i_i_i_k_i_k lt_gi_i_i_i_k_i_kh lt_gi_i_i_i_k_k_i lt_gi_i_i_i_k_k_ih lt_gi_i_i_i_k_k_i_k lt_gi_i_i_i_k_k_i_kh lt_gi_i_i_i_k_i_i lt_gi_i_i_i_k_i_ih lt_gi_i_i_i_k_i_i_k lt_gi_i_i_i_k_i_i_kh lt_gi_i_i_i_k_k_i_i lt_gi_i_i_i_k_k_i_ih lt_gi_i_i_i_k_k_i_i_k lt_gi_i_i_i_k_k_i_i_kh lt_gi_i_i_i_k_i_i_i lt_gi_i_i_i_k_i_i_ih lt_gi_i_i_i_k_i_i_i_k lt_gi_i_i_i_k_i_i_i_kh lt_gi_i_i_i_k_k_i_i_i lt_gi_i_i_i_k_k_i_i_ih lt_gi_i_i_i_k_k_i_i_i_k lt_gi_i_i_i_k_k_i_i_i_kh lt_gi_i_i_i_i_k_i lt_gi_i_i_i_i_k_ih lt_gi_i_i_i_i_k_i_k lt_gi_i_i_i_i_k_i_kh lt_gi_i_i_i_i_k_k_i lt_gi_i_i_i_i_k_k_ih lt_gi_i_i_i_i_k_k_i_k lt_gi_i_i_i_i_k_k_i_kh lt_gi_i_i_i_i_k_i_i lt_gi_i_i_i_i_k_i_ih lt_gi_i_i_i_i_k_i_i_k lt_gi_i_i_i_i_k_i_i_kh lt_gi_i_i_i_i_k_k_i_i lt_gi_i_i_i_i_k_k_i_ih lt_gi_i_i_i_i_k_k_i_i_k lt_gi_i_i_i_i_k_k_i_i_kh lt_gi_i_i_i_i_k_i_i_i lt_gi_i_i_i_i_k_i_i_ih lt_gi_i_i_i_i_k_i_i_i_k lt_gi_i_i_i_i_k_i_i_i_kh lt_gi_i_i_i_i_k_k_i_i_i lt_gi_i_i_i_i_k_k_i_i_ih lt_gi_i_i_i_i_k_k_i_i_i_k lt_gi_i_i_i_i_k_k_i_i_i_kh
theorem c_rOp0 (a0 a1 b0 b1 : Int) (h1 : A2.ok ⟨a0, a1⟩) (h2 : A2.ok ⟨b0, b1⟩) (w : World) :
    Calls Try.prog 84 #[.int .i64 0, .agg #[.int .u64 a0, .int .u64 a1], .agg #[.int .u64 b0, .int .u64 b1]] w fun e w' => e = .returned (.agg #[.int .u64 (aAnd ⟨a0, a1⟩ ⟨b0, b1⟩).x, .int .u64 (aAnd ⟨a0, a1⟩ ⟨b0, b1⟩).y]) ∧ Below w.heap.size w w' := by
  have h := c_rAnd a0 a1 b0 b1 h1 h2 w
  rwa [words_and h1 h2] at h
end Go.Proofs.Ytjmnnkhdadoehaa
