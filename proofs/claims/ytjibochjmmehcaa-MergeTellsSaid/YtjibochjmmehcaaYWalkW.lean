/- What single calls do: the reference's words and masks. -/
import Derived.Test.YtjibochjmmehcaaYWalkC
import Derived.Test.YtjibochjmmehcaaYSpec
import Derived.Test.YtjibochjmmehcaaYAppB
import Derived.Test.YtjibochjmmehcaaYPureA
import Derived.Test.YtjibochjmmehcaaYWalkA
namespace Go.Proofs.Ytjibochjmmehcaa
set_option linter.unusedSimpArgs false
set_option linter.unusedVariables false
open Go.RowKit
attribute [local go_sem high] eql_41 neq_41 eql_40 neq_40 eql_43 neq_43 eql_59 neq_59 eql_45 neq_45 eql_61 neq_61 eql_53 neq_53 eql_74 neq_74 eql_56 neq_56 eql_76 neq_76
attribute [local go_sem ↓ high] yielded_undef
attribute [local go_sem] eqg_41 eqg_40 eqg_43 eqg_59 eqg_45 eqg_61 eqg_53 eqg_74 eqg_56 eqg_76 cell_grew frozen_grew size_grew grew_grew drewN_grew lt_addk size_setW Instr.field asAgg lt_gi_k lt_gi_kh lt_gi_k_k lt_gi_k_kh lt_gi_k_k_k lt_gi_k_k_kh lt_gi_i_k lt_gi_i_kh lt_gi_i_k_k lt_gi_i_k_kh lt_gi_i_k_k_k lt_gi_i_k_k_kh lt_gi_i_i_k lt_gi_i_i_kh lt_gi_i_i_k_k lt_gi_i_i_k_kh lt_gi_i_i_k_k_k lt_gi_i_i_k_k_kh lt_gi_i_i_i_k lt_gi_i_i_i_kh lt_gi_i_i_i_k_k lt_gi_i_i_i_k_kh lt_gi_i_i_i_k_k_k lt_gi_i_i_i_k_k_kh lt_gi_i_i_i_i_k lt_gi_i_i_i_i_kh lt_gi_i_i_i_i_k_k lt_gi_i_i_i_i_k_kh lt_gi_i_i_i_i_k_k_k lt_gi_i_i_i_i_k_k_kh lt_gi_i_i_i_i_i_k lt_gi_i_i_i_i_i_kh lt_gi_i_i_i_i_i_k_k lt_gi_i_i_i_i_i_k_kh lt_gi_i_i_i_i_i_k_k_k lt_gi_i_i_i_i_i_k_k_kh lt_gi_i_i_i_i_i_i_k lt_gi_i_i_i_i_i_i_kh lt_gi_i_i_i_i_i_i_k_k lt_gi_i_i_i_i_i_i_k_kh lt_gi_i_i_i_i_i_i_k_k_k lt_gi_i_i_i_i_i_i_k_k_kh lt_gi_i_i_i_i_i_i_i_k lt_gi_i_i_i_i_i_i_i_kh lt_gi_i_i_i_i_i_i_i_k_k lt_gi_i_i_i_i_i_i_i_k_kh lt_gi_i_i_i_i_i_i_i_k_k_k lt_gi_i_i_i_i_i_i_i_k_k_kh lt_gi_k_i lt_gi_k_ih lt_gi_k_i_k lt_gi_k_i_kh lt_gi_k_k_i lt_gi_k_k_ih lt_gi_k_k_i_k lt_gi_k_k_i_kh lt_gi_k_i_i lt_gi_k_i_ih lt_gi_k_i_i_k lt_gi_k_i_i_kh lt_gi_k_k_i_i lt_gi_k_k_i_ih lt_gi_k_k_i_i_k lt_gi_k_k_i_i_kh lt_gi_k_i_i_i lt_gi_k_i_i_ih lt_gi_k_i_i_i_k lt_gi_k_i_i_i_kh lt_gi_k_k_i_i_i lt_gi_k_k_i_i_ih lt_gi_k_k_i_i_i_k lt_gi_k_k_i_i_i_kh lt_gi_i_k_i lt_gi_i_k_ih lt_gi_i_k_i_k lt_gi_i_k_i_kh lt_gi_i_k_k_i lt_gi_i_k_k_ih lt_gi_i_k_k_i_k lt_gi_i_k_k_i_kh lt_gi_i_k_i_i lt_gi_i_k_i_ih lt_gi_i_k_i_i_k lt_gi_i_k_i_i_kh lt_gi_i_k_k_i_i lt_gi_i_k_k_i_ih lt_gi_i_k_k_i_i_k lt_gi_i_k_k_i_i_kh lt_gi_i_k_i_i_i lt_gi_i_k_i_i_ih lt_gi_i_k_i_i_i_k lt_gi_i_k_i_i_i_kh lt_gi_i_k_k_i_i_i lt_gi_i_k_k_i_i_ih lt_gi_i_k_k_i_i_i_k lt_gi_i_k_k_i_i_i_kh lt_gi_i_i_k_i lt_gi_i_i_k_ih lt_gi_i_i_k_i_k lt_gi_i_i_k_i_kh lt_gi_i_i_k_k_i lt_gi_i_i_k_k_ih lt_gi_i_i_k_k_i_k lt_gi_i_i_k_k_i_kh lt_gi_i_i_k_i_i lt_gi_i_i_k_i_ih lt_gi_i_i_k_i_i_k lt_gi_i_i_k_i_i_kh lt_gi_i_i_k_k_i_i lt_gi_i_i_k_k_i_ih lt_gi_i_i_k_k_i_i_k lt_gi_i_i_k_k_i_i_kh lt_gi_i_i_k_i_i_i lt_gi_i_i_k_i_i_ih lt_gi_i_i_k_i_i_i_k lt_gi_i_i_k_i_i_i_kh lt_gi_i_i_k_k_i_i_i lt_gi_i_i_k_k_i_i_ih lt_gi_i_i_k_k_i_i_i_k lt_gi_i_i_k_k_i_i_i_kh lt_gi_i_i_i_k_i lt_gi_i_i_i_k_ih lt_gi_i_i_i_k_i_k lt_gi_i_i_i_k_i_kh lt_gi_i_i_i_k_k_i lt_gi_i_i_i_k_k_ih lt_gi_i_i_i_k_k_i_k lt_gi_i_i_i_k_k_i_kh lt_gi_i_i_i_k_i_i lt_gi_i_i_i_k_i_ih lt_gi_i_i_i_k_i_i_k lt_gi_i_i_i_k_i_i_kh lt_gi_i_i_i_k_k_i_i lt_gi_i_i_i_k_k_i_ih lt_gi_i_i_i_k_k_i_i_k lt_gi_i_i_i_k_k_i_i_kh lt_gi_i_i_i_k_i_i_i lt_gi_i_i_i_k_i_i_ih lt_gi_i_i_i_k_i_i_i_k lt_gi_i_i_i_k_i_i_i_kh lt_gi_i_i_i_k_k_i_i_i lt_gi_i_i_i_k_k_i_i_ih lt_gi_i_i_i_k_k_i_i_i_k lt_gi_i_i_i_k_k_i_i_i_kh lt_gi_i_i_i_i_k_i lt_gi_i_i_i_i_k_ih lt_gi_i_i_i_i_k_i_k lt_gi_i_i_i_i_k_i_kh lt_gi_i_i_i_i_k_k_i lt_gi_i_i_i_i_k_k_ih lt_gi_i_i_i_i_k_k_i_k lt_gi_i_i_i_i_k_k_i_kh lt_gi_i_i_i_i_k_i_i lt_gi_i_i_i_i_k_i_ih lt_gi_i_i_i_i_k_i_i_k lt_gi_i_i_i_i_k_i_i_kh lt_gi_i_i_i_i_k_k_i_i lt_gi_i_i_i_i_k_k_i_ih lt_gi_i_i_i_i_k_k_i_i_k lt_gi_i_i_i_i_k_k_i_i_kh lt_gi_i_i_i_i_k_i_i_i lt_gi_i_i_i_i_k_i_i_ih lt_gi_i_i_i_i_k_i_i_i_k lt_gi_i_i_i_i_k_i_i_i_kh lt_gi_i_i_i_i_k_k_i_i_i lt_gi_i_i_i_i_k_k_i_i_ih lt_gi_i_i_i_i_k_k_i_i_i_k lt_gi_i_i_i_i_k_k_i_i_i_kh
def bitAt (bs : List Bool) (k : Nat) : Bool := bs.getD k false
theorem bitAt_get {bs : List Bool} {k : Nat} (h : k < bs.length) : bitAt bs k = bs[k] := by
  unfold bitAt
  rw [List.getD_eq_getElem?_getD, List.getElem?_eq_getElem h]; rfl
set_option maxRecDepth 100000 in
set_option maxHeartbeats 4000000 in
theorem c_Words (A : Option Addr) (c : Nat) (bs : List Bool) (hl : bs.length = 128) (w : World) (hr : Reads encB 1 w A bs) :
    Calls Try.prog 82 #[.slice A 128 c] w fun e w' => e = .returned (.agg #[.int .u64 (words (bitAt bs)).x, .int .u64 (words (bitAt bs)).y]) ∧ Below w.heap.size w w' := by
  go_enter Try.func82, Try.ntmps82
  go_wp2
  go_loopw [4] (fun v4 wr => ∃ (k : Nat) (x y : Int), k ≤ 128 ∧ v4 = .int .i64 k ∧ wr = (w.alloc (.cells #[.int .u64 0, .int .u64 0] 40)).alloc (.cells #[.int .u64 x, .int .u64 y] 40) ∧ Hid (x = wTo (bitAt bs) 0 (min k 64)) ∧ Hid (y = wTo (bitAt bs) 64 (k - 64))) (fun i _ => 128 - (intOf i).toNat)
  case atStart => exact ⟨0, 0, 0, by omega, rfl, rfl, rfl, rfl⟩
  case round =>
    obtain ⟨k, x, y, hk, rfl, rfl, H1, H2⟩ := hrel
    by_cases hlt : k < 128
    · have hlt2 : k < bs.length := by omega
      obtain ⟨b, off, rfl, hb, h0⟩ := hr.atB hlt2
      have hbit := bitAt_get hlt2
      by_cases hlo : k < 64
      · have hq : Int.tdiv (k : Int) 64 = 0 := by rw [Int.tdiv_eq_ediv_of_nonneg (by omega)]; omega
        have hw := wrap_two (x := x) (j := k) (f := bitAt bs) (o := 0) (by rw [H1.out]; congr 1; omega) hlo
        have hn : wTo (bitAt bs) 0 (min (k + 1) 64) = 2 * x + (if bs[k] then 1 else 0) := by
          rw [show min (k + 1) 64 = k + 1 by omega, wTo, Nat.zero_add, hbit, H1.out, show min k 64 = k by omega]
        have hy : Hid (y = wTo (bitAt bs) 64 (k + 1 - 64)) := by
          show y = _
          rw [H2.out]; congr 1; omega
        have Hn := Lib.hid hn
        have Hw := Lib.hid hw
        clear hn hw hbit
        cases hc : bs[k] with
        | true =>
          rw [hc] at h0
          have Hc := Lib.hid hc
          clear hc
          go_wp2
          go_roundw
          case rel => exact ⟨k + 1, _, _, by omega, by go_num, rfl, by show _ = _; rw [Hn.out, Hc.out]; simp [Hw.out.1, Hw.out.2]; omega, hy⟩
          case measure => first | (simp [intOf]; done) | (simp [intOf]; omega)
        | false =>
          rw [hc] at h0
          have Hc := Lib.hid hc
          clear hc
          go_wp2
          go_roundw
          case rel => exact ⟨k + 1, _, _, by omega, by go_num, rfl, by show _ = _; rw [Hn.out, Hc.out]; simp [Hw.out.1, Hw.out.2]; omega, hy⟩
          case measure => first | (simp [intOf]; done) | (simp [intOf]; omega)
      · have hq : Int.tdiv (k : Int) 64 = 1 := by rw [Int.tdiv_eq_ediv_of_nonneg (by omega)]; omega
        have hw := wrap_two (x := y) (j := k - 64) (f := bitAt bs) (o := 64) H2.out (by omega)
        have hn : wTo (bitAt bs) 64 (k + 1 - 64) = 2 * y + (if bs[k] then 1 else 0) := by
          rw [show k + 1 - 64 = (k - 64) + 1 by omega, wTo, show 64 + (k - 64) = k by omega, hbit, H2.out]
        have hy : Hid (x = wTo (bitAt bs) 0 (min (k + 1) 64)) := by
          show x = _
          rw [H1.out]; congr 1; omega
        have Hn := Lib.hid hn
        have Hw := Lib.hid hw
        clear hn hw hbit
        cases hc : bs[k] with
        | true =>
          rw [hc] at h0
          have Hc := Lib.hid hc
          clear hc
          go_wp2
          go_roundw
          case rel => exact ⟨k + 1, _, _, by omega, by go_num, rfl, hy, by show _ = _; rw [Hn.out, Hc.out]; simp [Hw.out.1, Hw.out.2]; omega⟩
          case measure => first | (simp [intOf]; done) | (simp [intOf]; omega)
        | false =>
          rw [hc] at h0
          have Hc := Lib.hid hc
          clear hc
          go_wp2
          go_roundw
          case rel => exact ⟨k + 1, _, _, by omega, by go_num, rfl, hy, by show _ = _; rw [Hn.out, Hc.out]; simp [Hw.out.1, Hw.out.2]; omega⟩
          case measure => first | (simp [intOf]; done) | (simp [intOf]; omega)
    · obtain rfl : k = 128 := by omega
      have e1 : x = (words (bitAt bs)).x := H1.out
      have e2 : y = (words (bitAt bs)).y := H2.out
      have E1 := Lib.hid e1
      have E2 := Lib.hid e2
      clear e1 e2 H1 H2
      go_wp2
      refine bodyPost_ret (v := .agg #[.int .u64 x, .int .u64 y]) ?_ rfl ⟨?_, ?_⟩
      · simp [results, Try.f82, go_sem]
      · rw [E1.out, E2.out]
      · repeat' (first | with_reducible exact Below.refl _ _ | with_reducible assumption | with_reducible apply below_grews | with_reducible apply Below.drew | with_reducible apply Below.alloc | with_reducible apply Below.setCell | (simp [size_grew, -Nat.not_le, -Nat.not_lt] <;> omega))
end Go.Proofs.Ytjibochjmmehcaa

/- What single calls do: the reference's operation bit by bit. -/
namespace Go.Proofs.Ytjibochjmmehcaa
set_option linter.unusedSimpArgs false
set_option linter.unusedVariables false
open Go.RowKit
attribute [local go_sem high] eql_41 neq_41 eql_40 neq_40 eql_43 neq_43 eql_59 neq_59 eql_45 neq_45 eql_61 neq_61 eql_53 neq_53 eql_74 neq_74 eql_56 neq_56 eql_76 neq_76
attribute [local go_sem ↓ high] yielded_undef
attribute [local go_sem] eqg_41 eqg_40 eqg_43 eqg_59 eqg_45 eqg_61 eqg_53 eqg_74 eqg_56 eqg_76 cell_grew frozen_grew size_grew grew_grew drewN_grew lt_addk size_setW Instr.field asAgg lt_gi_k lt_gi_kh lt_gi_k_k lt_gi_k_kh lt_gi_k_k_k lt_gi_k_k_kh lt_gi_i_k lt_gi_i_kh lt_gi_i_k_k lt_gi_i_k_kh lt_gi_i_k_k_k lt_gi_i_k_k_kh lt_gi_i_i_k lt_gi_i_i_kh lt_gi_i_i_k_k lt_gi_i_i_k_kh lt_gi_i_i_k_k_k lt_gi_i_i_k_k_kh lt_gi_i_i_i_k lt_gi_i_i_i_kh lt_gi_i_i_i_k_k lt_gi_i_i_i_k_kh lt_gi_i_i_i_k_k_k lt_gi_i_i_i_k_k_kh lt_gi_i_i_i_i_k lt_gi_i_i_i_i_kh lt_gi_i_i_i_i_k_k lt_gi_i_i_i_i_k_kh lt_gi_i_i_i_i_k_k_k lt_gi_i_i_i_i_k_k_kh lt_gi_i_i_i_i_i_k lt_gi_i_i_i_i_i_kh lt_gi_i_i_i_i_i_k_k lt_gi_i_i_i_i_i_k_kh lt_gi_i_i_i_i_i_k_k_k lt_gi_i_i_i_i_i_k_k_kh lt_gi_i_i_i_i_i_i_k lt_gi_i_i_i_i_i_i_kh lt_gi_i_i_i_i_i_i_k_k lt_gi_i_i_i_i_i_i_k_kh lt_gi_i_i_i_i_i_i_k_k_k lt_gi_i_i_i_i_i_i_k_k_kh lt_gi_i_i_i_i_i_i_i_k lt_gi_i_i_i_i_i_i_i_kh lt_gi_i_i_i_i_i_i_i_k_k lt_gi_i_i_i_i_i_i_i_k_kh lt_gi_i_i_i_i_i_i_i_k_k_k lt_gi_i_i_i_i_i_i_i_k_k_kh lt_gi_k_i lt_gi_k_ih lt_gi_k_i_k lt_gi_k_i_kh lt_gi_k_k_i lt_gi_k_k_ih lt_gi_k_k_i_k lt_gi_k_k_i_kh lt_gi_k_i_i lt_gi_k_i_ih lt_gi_k_i_i_k lt_gi_k_i_i_kh lt_gi_k_k_i_i lt_gi_k_k_i_ih lt_gi_k_k_i_i_k lt_gi_k_k_i_i_kh lt_gi_k_i_i_i lt_gi_k_i_i_ih lt_gi_k_i_i_i_k lt_gi_k_i_i_i_kh lt_gi_k_k_i_i_i lt_gi_k_k_i_i_ih lt_gi_k_k_i_i_i_k lt_gi_k_k_i_i_i_kh lt_gi_i_k_i lt_gi_i_k_ih lt_gi_i_k_i_k lt_gi_i_k_i_kh lt_gi_i_k_k_i lt_gi_i_k_k_ih lt_gi_i_k_k_i_k lt_gi_i_k_k_i_kh lt_gi_i_k_i_i lt_gi_i_k_i_ih lt_gi_i_k_i_i_k lt_gi_i_k_i_i_kh lt_gi_i_k_k_i_i lt_gi_i_k_k_i_ih lt_gi_i_k_k_i_i_k lt_gi_i_k_k_i_i_kh lt_gi_i_k_i_i_i lt_gi_i_k_i_i_ih lt_gi_i_k_i_i_i_k lt_gi_i_k_i_i_i_kh lt_gi_i_k_k_i_i_i lt_gi_i_k_k_i_i_ih lt_gi_i_k_k_i_i_i_k lt_gi_i_k_k_i_i_i_kh lt_gi_i_i_k_i lt_gi_i_i_k_ih lt_gi_i_i_k_i_k lt_gi_i_i_k_i_kh lt_gi_i_i_k_k_i lt_gi_i_i_k_k_ih lt_gi_i_i_k_k_i_k lt_gi_i_i_k_k_i_kh lt_gi_i_i_k_i_i lt_gi_i_i_k_i_ih lt_gi_i_i_k_i_i_k lt_gi_i_i_k_i_i_kh lt_gi_i_i_k_k_i_i lt_gi_i_i_k_k_i_ih lt_gi_i_i_k_k_i_i_k lt_gi_i_i_k_k_i_i_kh lt_gi_i_i_k_i_i_i lt_gi_i_i_k_i_i_ih lt_gi_i_i_k_i_i_i_k lt_gi_i_i_k_i_i_i_kh lt_gi_i_i_k_k_i_i_i lt_gi_i_i_k_k_i_i_ih lt_gi_i_i_k_k_i_i_i_k lt_gi_i_i_k_k_i_i_i_kh lt_gi_i_i_i_k_i lt_gi_i_i_i_k_ih lt_gi_i_i_i_k_i_k lt_gi_i_i_i_k_i_kh lt_gi_i_i_i_k_k_i lt_gi_i_i_i_k_k_ih lt_gi_i_i_i_k_k_i_k lt_gi_i_i_i_k_k_i_kh lt_gi_i_i_i_k_i_i lt_gi_i_i_i_k_i_ih lt_gi_i_i_i_k_i_i_k lt_gi_i_i_i_k_i_i_kh lt_gi_i_i_i_k_k_i_i lt_gi_i_i_i_k_k_i_ih lt_gi_i_i_i_k_k_i_i_k lt_gi_i_i_i_k_k_i_i_kh lt_gi_i_i_i_k_i_i_i lt_gi_i_i_i_k_i_i_ih lt_gi_i_i_i_k_i_i_i_k lt_gi_i_i_i_k_i_i_i_kh lt_gi_i_i_i_k_k_i_i_i lt_gi_i_i_i_k_k_i_i_ih lt_gi_i_i_i_k_k_i_i_i_k lt_gi_i_i_i_k_k_i_i_i_kh lt_gi_i_i_i_i_k_i lt_gi_i_i_i_i_k_ih lt_gi_i_i_i_i_k_i_k lt_gi_i_i_i_i_k_i_kh lt_gi_i_i_i_i_k_k_i lt_gi_i_i_i_i_k_k_ih lt_gi_i_i_i_i_k_k_i_k lt_gi_i_i_i_i_k_k_i_kh lt_gi_i_i_i_i_k_i_i lt_gi_i_i_i_i_k_i_ih lt_gi_i_i_i_i_k_i_i_k lt_gi_i_i_i_i_k_i_i_kh lt_gi_i_i_i_i_k_k_i_i lt_gi_i_i_i_i_k_k_i_ih lt_gi_i_i_i_i_k_k_i_i_k lt_gi_i_i_i_i_k_k_i_i_kh lt_gi_i_i_i_i_k_i_i_i lt_gi_i_i_i_i_k_i_i_ih lt_gi_i_i_i_i_k_i_i_i_k lt_gi_i_i_i_i_k_i_i_i_kh lt_gi_i_i_i_i_k_k_i_i_i lt_gi_i_i_i_i_k_k_i_i_ih lt_gi_i_i_i_i_k_k_i_i_i_k lt_gi_i_i_i_i_k_k_i_i_i_kh
end Go.Proofs.Ytjibochjmmehcaa

/- Words out of bits, masks: in plain Lean. -/
namespace Go.Proofs.Ytjibochjmmehcaa
set_option linter.unusedSimpArgs false
set_option linter.unusedVariables false
open Go
theorem wbit_twice (x : Int) (b : Bool) : wbit (2 * x + (if b then 1 else 0)) 0 = b := by
  unfold wbit
  cases b <;> simp <;> omega
theorem wbit_twice' (x : Int) (b : Bool) (m : Nat) : wbit (2 * x + (if b then 1 else 0)) (m + 1) = wbit x m := by
  unfold wbit
  have e : (2 * x + (if b then 1 else 0)) / 2 ^ (m + 1) = x / 2 ^ m := by
    rw [Int.pow_succ, Int.mul_comm (2 ^ m) 2, ← Int.ediv_ediv_of_nonneg (by omega : (0 : Int) ≤ 2)]
    congr 1
    cases b <;> simp <;> omega
  rw [e]
theorem wTo_bit (f : Nat → Bool) (o : Nat) : ∀ (j i : Nat), i < j → wbit (wTo f o j) (j - 1 - i) = f (o + i)
  | 0, i, h => by omega
  | j + 1, i, h => by
    rw [wTo]
    by_cases e : i = j
    · subst e
      rw [show i + 1 - 1 - i = 0 by omega]
      exact wbit_twice _ _
    · rw [show j + 1 - 1 - i = (j - 1 - i) + 1 by omega, wbit_twice']
      exact wTo_bit f o j i (by omega)
theorem words_ok (f : Nat → Bool) : (words f).ok := ⟨wTo_U f 0 64 (by omega), wTo_U f 64 64 (by omega)⟩
theorem words_bit (f : Nat → Bool) {i : Nat} (h : i < 128) : abit (words f) i = f i := by
  unfold abit words
  by_cases h2 : i < 64
  · rw [if_pos h2]
    have := wTo_bit f 0 64 i h2
    rwa [Nat.zero_add] at this
  · rw [if_neg h2]
    have := wTo_bit f 64 64 (i - 64) (by omega)
    rw [show 64 - 1 - (i - 64) = 127 - i by omega, show 64 + (i - 64) = i by omega] at this
    exact this
theorem U_max : U IntKind.u64.max := by unfold U; decide
theorem max_div (k : Nat) : (18446744073709551615 : Int) / 2 ^ k = ((18446744073709551615 / 2 ^ k : Nat) : Int) := by
  simp
theorem U_maxdiv (k : Nat) : U (18446744073709551615 / 2 ^ k) := by
  rw [max_div]
  have : 18446744073709551615 / 2 ^ k ≤ 18446744073709551615 := Nat.div_le_self _ _
  exact ⟨Int.natCast_nonneg _, Int.ofNat_lt.2 (Nat.lt_of_le_of_lt this (by decide))⟩
theorem max_bit (j : Nat) : (18446744073709551615 : Nat).testBit j = decide (j < 64) := by
  rw [show (18446744073709551615 : Nat) = 2 ^ 64 - 1 by decide]
  exact Nat.testBit_two_pow_sub_one 64 j
theorem maskW_U (k : Int) : U (maskW k) := by
  unfold maskW
  exact U_xor U_max (U_maxdiv _)
theorem maskW_bit (k : Nat) {i : Nat} (hi : i < 64) : wbit (maskW k) (63 - i) = decide (i < k) := by
  unfold maskW
  rw [wbit_xor U_max (U_maxdiv _), Int.toNat_natCast, max_div, wbit_nat]
  rw [show IntKind.u64.max = ((18446744073709551615 : Nat) : Int) by decide, wbit_nat, max_bit, Nat.testBit_div_two_pow, max_bit]
  by_cases h : i < k
  · rw [decide_eq_true (by omega : 63 - i < 64), decide_eq_false (by omega), decide_eq_true h]; rfl
  · rw [decide_eq_true (by omega : 63 - i < 64), decide_eq_true (by omega), decide_eq_false h]; rfl
theorem mask_ok (n : Int) : (aMask n).ok := by
  unfold aMask
  (repeat' split) <;> exact ⟨maskW_U _, maskW_U _⟩
theorem mask_bit (n : Int) {i : Nat} (hi : i < 128) : abit (aMask n) i = decide ((i : Int) < n) := by
  have key : ∀ (p q : Nat), abit ⟨maskW p, maskW q⟩ i = if i < 64 then decide (i < p) else decide (i - 64 < q) := by
    intro p q
    unfold abit
    by_cases h : i < 64
    · rw [if_pos h, if_pos h]; exact maskW_bit p h
    · rw [if_neg h, if_neg h, show 127 - i = 63 - (i - 64) by omega]; exact maskW_bit q (by omega)
  unfold aMask
  by_cases h1 : n ≤ 0
  · rw [if_pos h1]
    have := key 0 0
    rw [show ((0 : Nat) : Int) = 0 from rfl] at this
    rw [this, decide_eq_false (by omega : ¬ (i : Int) < n)]
    split <;> simp
  rw [if_neg h1]
  by_cases h2 : 128 ≤ n
  · rw [if_pos h2]
    have := key 64 64
    rw [show ((64 : Nat) : Int) = 64 from rfl] at this
    rw [this, decide_eq_true (by omega : (i : Int) < n)]
    split <;> simp <;> omega
  rw [if_neg h2]
  obtain ⟨m, rfl⟩ : ∃ m : Nat, n = m := ⟨n.toNat, by omega⟩
  by_cases h3 : (m : Int) ≤ 64
  · rw [if_pos h3]
    have := key m 0
    rw [show ((0 : Nat) : Int) = 0 from rfl] at this
    rw [this, Bool.eq_iff_iff]
    split <;> simp <;> omega
  · rw [if_neg h3]
    have := key 64 (m - 64)
    rw [show ((64 : Nat) : Int) = 64 from rfl, show ((m - 64 : Nat) : Int) = (m : Int) - 64 by omega] at this
    rw [this, Bool.eq_iff_iff]
    split <;> simp <;> omega
end Go.Proofs.Ytjibochjmmehcaa

/- What single calls do: the reference's masks and prefixes. -/
namespace Go.Proofs.Ytjibochjmmehcaa
set_option linter.unusedSimpArgs false
set_option linter.unusedVariables false
open Go.RowKit
attribute [local go_sem high] eql_41 neq_41 eql_40 neq_40 eql_43 neq_43 eql_59 neq_59 eql_45 neq_45 eql_61 neq_61 eql_53 neq_53 eql_74 neq_74 eql_56 neq_56 eql_76 neq_76
attribute [local go_sem ↓ high] yielded_undef
attribute [local go_sem] eqg_41 eqg_40 eqg_43 eqg_59 eqg_45 eqg_61 eqg_53 eqg_74 eqg_56 eqg_76 cell_grew frozen_grew size_grew grew_grew drewN_grew lt_addk size_setW Instr.field asAgg lt_gi_k lt_gi_kh lt_gi_k_k lt_gi_k_kh lt_gi_k_k_k lt_gi_k_k_kh lt_gi_i_k lt_gi_i_kh lt_gi_i_k_k lt_gi_i_k_kh lt_gi_i_k_k_k lt_gi_i_k_k_kh lt_gi_i_i_k lt_gi_i_i_kh lt_gi_i_i_k_k lt_gi_i_i_k_kh lt_gi_i_i_k_k_k lt_gi_i_i_k_k_kh lt_gi_i_i_i_k lt_gi_i_i_i_kh lt_gi_i_i_i_k_k lt_gi_i_i_i_k_kh lt_gi_i_i_i_k_k_k lt_gi_i_i_i_k_k_kh lt_gi_i_i_i_i_k lt_gi_i_i_i_i_kh lt_gi_i_i_i_i_k_k lt_gi_i_i_i_i_k_kh lt_gi_i_i_i_i_k_k_k lt_gi_i_i_i_i_k_k_kh lt_gi_i_i_i_i_i_k lt_gi_i_i_i_i_i_kh lt_gi_i_i_i_i_i_k_k lt_gi_i_i_i_i_i_k_kh lt_gi_i_i_i_i_i_k_k_k lt_gi_i_i_i_i_i_k_k_kh lt_gi_i_i_i_i_i_i_k lt_gi_i_i_i_i_i_i_kh lt_gi_i_i_i_i_i_i_k_k lt_gi_i_i_i_i_i_i_k_kh lt_gi_i_i_i_i_i_i_k_k_k lt_gi_i_i_i_i_i_i_k_k_kh lt_gi_i_i_i_i_i_i_i_k lt_gi_i_i_i_i_i_i_i_kh lt_gi_i_i_i_i_i_i_i_k_k lt_gi_i_i_i_i_i_i_i_k_kh lt_gi_i_i_i_i_i_i_i_k_k_k lt_gi_i_i_i_i_i_i_i_k_k_kh lt_gi_k_i lt_gi_k_ih lt_gi_k_i_k lt_gi_k_i_kh lt_gi_k_k_i lt_gi_k_k_ih lt_gi_k_k_i_k lt_gi_k_k_i_kh lt_gi_k_i_i lt_gi_k_i_ih lt_gi_k_i_i_k lt_gi_k_i_i_kh lt_gi_k_k_i_i lt_gi_k_k_i_ih lt_gi_k_k_i_i_k lt_gi_k_k_i_i_kh lt_gi_k_i_i_i lt_gi_k_i_i_ih lt_gi_k_i_i_i_k lt_gi_k_i_i_i_kh lt_gi_k_k_i_i_i lt_gi_k_k_i_i_ih lt_gi_k_k_i_i_i_k lt_gi_k_k_i_i_i_kh lt_gi_i_k_i lt_gi_i_k_ih lt_gi_i_k_i_k lt_gi_i_k_i_kh lt_gi_i_k_k_i lt_gi_i_k_k_ih lt_gi_i_k_k_i_k lt_gi_i_k_k_i_kh lt_gi_i_k_i_i lt_gi_i_k_i_ih lt_gi_i_k_i_i_k lt_gi_i_k_i_i_kh lt_gi_i_k_k_i_i lt_gi_i_k_k_i_ih lt_gi_i_k_k_i_i_k lt_gi_i_k_k_i_i_kh lt_gi_i_k_i_i_i lt_gi_i_k_i_i_ih lt_gi_i_k_i_i_i_k lt_gi_i_k_i_i_i_kh lt_gi_i_k_k_i_i_i lt_gi_i_k_k_i_i_ih lt_gi_i_k_k_i_i_i_k lt_gi_i_k_k_i_i_i_kh lt_gi_i_i_k_i lt_gi_i_i_k_ih lt_gi_i_i_k_i_k lt_gi_i_i_k_i_kh lt_gi_i_i_k_k_i lt_gi_i_i_k_k_ih lt_gi_i_i_k_k_i_k lt_gi_i_i_k_k_i_kh lt_gi_i_i_k_i_i lt_gi_i_i_k_i_ih lt_gi_i_i_k_i_i_k lt_gi_i_i_k_i_i_kh lt_gi_i_i_k_k_i_i lt_gi_i_i_k_k_i_ih lt_gi_i_i_k_k_i_i_k lt_gi_i_i_k_k_i_i_kh lt_gi_i_i_k_i_i_i lt_gi_i_i_k_i_i_ih lt_gi_i_i_k_i_i_i_k lt_gi_i_i_k_i_i_i_kh lt_gi_i_i_k_k_i_i_i lt_gi_i_i_k_k_i_i_ih lt_gi_i_i_k_k_i_i_i_k lt_gi_i_i_k_k_i_i_i_kh lt_gi_i_i_i_k_i lt_gi_i_i_i_k_ih lt_gi_i_i_i_k_i_k lt_gi_i_i_i_k_i_kh lt_gi_i_i_i_k_k_i lt_gi_i_i_i_k_k_ih lt_gi_i_i_i_k_k_i_k lt_gi_i_i_i_k_k_i_kh lt_gi_i_i_i_k_i_i lt_gi_i_i_i_k_i_ih lt_gi_i_i_i_k_i_i_k lt_gi_i_i_i_k_i_i_kh lt_gi_i_i_i_k_k_i_i lt_gi_i_i_i_k_k_i_ih lt_gi_i_i_i_k_k_i_i_k lt_gi_i_i_i_k_k_i_i_kh lt_gi_i_i_i_k_i_i_i lt_gi_i_i_i_k_i_i_ih lt_gi_i_i_i_k_i_i_i_k lt_gi_i_i_i_k_i_i_i_kh lt_gi_i_i_i_k_k_i_i_i lt_gi_i_i_i_k_k_i_i_ih lt_gi_i_i_i_k_k_i_i_i_k lt_gi_i_i_i_k_k_i_i_i_kh lt_gi_i_i_i_i_k_i lt_gi_i_i_i_i_k_ih lt_gi_i_i_i_i_k_i_k lt_gi_i_i_i_i_k_i_kh lt_gi_i_i_i_i_k_k_i lt_gi_i_i_i_i_k_k_ih lt_gi_i_i_i_i_k_k_i_k lt_gi_i_i_i_i_k_k_i_kh lt_gi_i_i_i_i_k_i_i lt_gi_i_i_i_i_k_i_ih lt_gi_i_i_i_i_k_i_i_k lt_gi_i_i_i_i_k_i_i_kh lt_gi_i_i_i_i_k_k_i_i lt_gi_i_i_i_i_k_k_i_ih lt_gi_i_i_i_i_k_k_i_i_k lt_gi_i_i_i_i_k_k_i_i_kh lt_gi_i_i_i_i_k_i_i_i lt_gi_i_i_i_i_k_i_i_ih lt_gi_i_i_i_i_k_i_i_i_k lt_gi_i_i_i_i_k_i_i_i_kh lt_gi_i_i_i_i_k_k_i_i_i lt_gi_i_i_i_i_k_k_i_i_ih lt_gi_i_i_i_i_k_k_i_i_i_k lt_gi_i_i_i_i_k_k_i_i_i_kh
end Go.Proofs.Ytjibochjmmehcaa
