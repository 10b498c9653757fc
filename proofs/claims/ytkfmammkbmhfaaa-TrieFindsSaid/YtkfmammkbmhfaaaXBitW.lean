/- Single bits: addr.Bit, addr.With; which prefixes may be, of either family. -/
import Derived.Test.YtkfmammkbmhfaaaXAbs8
import Derived.Test.YtkfmammkbmhfaaaXGoods
import Derived.Test.YtkfmammkbmhfaaaXLen
import Derived.Test.YtkfmammkbmhfaaaXWalkW
import Derived.Laws.Bits64b
namespace Go.Proofs.Ytkfmammkbmhfaaa
set_option linter.unusedSimpArgs false
set_option linter.unusedVariables false
open Go Go.RowKit Go.Shelf
def aBit (k : Nat) : A2 := if k < 64 then ⟨2 ^ (63 - k), 0⟩ else ⟨0, 2 ^ (127 - k)⟩
theorem U_pow {m : Nat} (h : m < 64) : U (2 ^ m : Int) := by
  have : (2 : Nat) ^ m < 2 ^ 64 := Nat.pow_lt_pow_right (by omega) h
  have e : (2 : Int) ^ m = ((2 ^ m : Nat) : Int) := by push_cast; rfl
  rw [e]
  generalize (2 : Nat) ^ m = z at *
  exact ⟨by omega, by omega⟩
theorem wbit_pow (m j : Nat) : wbit (2 ^ m) j = decide (j = m) := by
  have e : (2 : Int) ^ m = ((2 ^ m : Nat) : Int) := by push_cast; rfl
  rw [e, wbit_nat, Nat.testBit_two_pow]
  by_cases h : m = j
  · subst h; simp
  · simp [h, Ne.symm h]
theorem wbit_zero (j : Nat) : wbit 0 j = false := by unfold wbit; simp
theorem aBit_ok {k : Nat} (hk : k < 128) : (aBit k).ok := by
  unfold aBit
  split
  · exact ⟨U_pow (by omega), U_zero⟩
  · exact ⟨U_zero, U_pow (by omega)⟩
theorem abit_aBit {k i : Nat} (hk : k < 128) (hi : i < 128) : abit (aBit k) i = decide (i = k) := by
  unfold abit aBit
  by_cases h1 : k < 64
  · rw [if_pos h1]
    by_cases h2 : i < 64
    · rw [if_pos h2]
      show wbit (2 ^ (63 - k)) (63 - i) = _
      rw [wbit_pow]
      by_cases e : i = k
      · subst e; simp
      · rw [decide_eq_false (by omega), decide_eq_false e]
    · rw [if_neg h2]
      show wbit 0 _ = _
      rw [wbit_zero, decide_eq_false (by omega)]
  · rw [if_neg h1]
    by_cases h2 : i < 64
    · rw [if_pos h2]
      show wbit 0 _ = _
      rw [wbit_zero, decide_eq_false (by omega)]
    · rw [if_neg h2]
      show wbit (2 ^ (127 - k)) (127 - i) = _
      rw [wbit_pow]
      by_cases e : i = k
      · subst e; simp
      · rw [decide_eq_false (by omega), decide_eq_false e]
theorem and_bit {a : A2} (ha : a.ok) {k : Nat} (hk : k < 128) : (aAnd a (aBit k) = ⟨0, 0⟩) ↔ abit a k = false := by
  constructor
  · intro h
    have := congrArg (fun x => abit x k) h
    simp only [abit_and ha (aBit_ok hk), abit_aBit hk hk, abit_zero] at this
    simpa using this
  · intro h
    refine ok_ext (ok_and ha (aBit_ok hk)) ok_zero fun i hi => ?_
    rw [abit_and ha (aBit_ok hk), abit_aBit hk hi, abit_zero]
    by_cases e : i = k
    · subst e; rw [h]; rfl
    · rw [decide_eq_false e, Bool.and_false]
/-! ### What the program does -/
section
variable {P : Program} {xt : TypeId} {x y : Operand}
theorem pb_quo_lo {k : Nat} (h : k < 64) : PB P .quo xt x y (.int .i64 (k : Nat)) (.int .i64 64) (.int .i64 (0 : Nat)) := fun w => by
  simp [eqGuard, binOp, Op.intDiv]
  rw [show (k : Int) / 64 = 0 by omega]
  rfl
theorem pb_quo_hi {k : Nat} (h1 : 64 ≤ k) (h : k < 128) : PB P .quo xt x y (.int .i64 (k : Nat)) (.int .i64 64) (.int .i64 (1 : Nat)) := fun w => by
  simp [eqGuard, binOp, Op.intDiv]
  rw [show (k : Int) / 64 = 1 by omega]
  rfl
theorem pb_rem_lo {k : Nat} (h : k < 64) : PB P .rem xt x y (.int .i64 (k : Nat)) (.int .i64 64) (.int .i64 (k : Nat)) := fun w => by
  have : (k : Int).tmod 64 = k := by rw [Int.tmod_eq_emod_of_nonneg (by omega)]; omega
  simp [eqGuard, binOp, Op.intDiv, this]
theorem pb_rem_hi {k : Nat} (h1 : 64 ≤ k) (h : k < 128) : PB P .rem xt x y (.int .i64 (k : Nat)) (.int .i64 64) (.int .i64 ((k - 64 : Nat) : Int)) := fun w => by
  have : (k : Int).tmod 64 = ((k - 64 : Nat) : Int) := by rw [Int.tmod_eq_emod_of_nonneg (by omega)]; omega
  simp [eqGuard, binOp, Op.intDiv, this]
theorem pb_shl1 {m : Nat} {s : Int} (hs : s = (m : Int)) (h : m < 64) : PB P .shl xt x y (.int .u64 1) (.int .i64 s) (.int .u64 (2 ^ m)) := fun w => by
  subst hs
  have e : IntKind.wrap .u64 (1 * 2 ^ m) = 2 ^ m := by
    rw [Int.one_mul]
    have := U_pow h
    show (2 ^ m : Int) % 18446744073709551616 = 2 ^ m
    exact Int.emod_eq_of_lt this.1 this.2
  have e2 : ¬ ((m : Int) < 0) := by omega
  have e3 : min (m : Int).toNat IntKind.u64.bits = m := by show min (m : Int).toNat 64 = m; omega
  simp only [eqGuard, binOp, Op.shift, e2, if_false, e3, e]
  simp
end
attribute [local irreducible] OpH OpT LT CT HT Good
theorem arm60_1 {p : Prop} (h : p := by first | exact OpH.assign (v := .val _) rfl | exact OpH.assign (v := .sl _ _) rfl | exact OpH.assign (v := .row _ _ _ _) rfl | exact OpH.assign (v := .full _ _) rfl | exact OpH.assign (v := .ptr _ _) rfl | exact OpH.assign (v := .cptr _) rfl | exact OpH.assign (v := .cloB _ _) rfl | exact OpH.assign (v := .clo _ _) rfl | exact OpH.assign (v := .pr _) rfl | exact OpH.assign (v := .arow _) rfl | exact OpH.assign (v := .aptr _ _ _ _) rfl | exact OpH.assign (v := .asub _ _ _ _) rfl | exact OpH.assign (v := .tup _) rfl | exact OpH.move (v := .val _) rfl | exact OpH.move (v := .sl _ _) rfl | exact OpH.move (v := .row _ _ _ _) rfl | exact OpH.move (v := .full _ _) rfl | exact OpH.move (v := .ptr _ _) rfl | exact OpH.move (v := .cptr _) rfl | exact OpH.move (v := .cloB _ _) rfl | exact OpH.move (v := .clo _ _) rfl | exact OpH.move (v := .pr _) rfl | exact OpH.move (v := .arow _) rfl | exact OpH.move (v := .aptr _ _ _ _) rfl | exact OpH.move (v := .asub _ _ _ _) rfl | exact OpH.move (v := .tup _) rfl | exact OpH.bin rfl rfl (pb_geq_t (by omega)) | exact OpH.bin rfl rfl (pb_geq_f (by omega)) | exact OpH.bin rfl rfl (pb_geq) | exact OpH.bin rfl rfl (pb_lss_t (by omega)) | exact OpH.bin rfl rfl (pb_lss_f (by omega)) | exact OpH.bin rfl rfl (pb_lss) | exact OpH.pick (b := true) (v := .val _) rfl rfl | exact OpH.pick (b := false) (v := .val _) rfl rfl | exact OpH.pick (b := true) (v := .sl _ _) rfl rfl | exact OpH.pick (b := false) (v := .sl _ _) rfl rfl | exact OpH.pick (b := true) (v := .row _ _ _ _) rfl rfl | exact OpH.pick (b := false) (v := .row _ _ _ _) rfl rfl | exact OpH.pick (b := true) (v := .full _ _) rfl rfl | exact OpH.pick (b := false) (v := .full _ _) rfl rfl | exact OpH.pickV rfl rfl rfl) : p := h
set_option maxRecDepth 100000 in
set_option maxHeartbeats 2000000 in
theorem g_is (k : Nat) (hk : k < 128) : Good Try.prog 60 [.val (.int .i64 (k : Nat))] (.val (.bool true)) := by
  refine Good.of_body (T := [(0, _)]) Try.func60 rfl rfl rfl ?_
  intro K0 w0 hno
  repeat' (first | refine CT.seqR ?_ | refine CT.region ?_ | refine CT.seq1 ?_ | refine CT.block ?_ | refine CT.condT rfl ?_ | refine CT.condF rfl ?_ | refine CT.condD rfl (fun _ => ?_) (fun _ => ?_) | refine CT.condN rfl (fun _ => ?_) (fun _ => ?_) | refine CT.cond rfl (fun _ => ?_) (fun _ => ?_) | refine CT.skip ?_ | refine CT.exit ?_ | refine CT.ret ?_ | refine LT.nil ?_ | refine HT.nil1 ?_ | ((first | apply LT.cons1 | (apply LT.guard1; rfl; rfl; rfl; decide)); (first | exact arm60_1); decide) | refine LT.skip1 rfl rfl rfl (by decide) (by decide) ?_ | refine LT.skip2 rfl rfl (by decide) (by decide) ?_ | refine LT.partD rfl rfl (fun _ => ?_) (fun _ => ?_) | refine LT.partN rfl rfl (fun _ => ?_) (fun _ => ?_) | (refine LT.part1 rfl rfl (fun h => ?_) (fun h => ?_); (fail_if_success exact absurd h (by decide)); rotate_left; (fail_if_success exact absurd h (by decide)); rotate_left))
  refine ⟨by first | exact .inl rfl | exact .inr rfl, _, (.cons (.tmp 2 (A := .val _) rfl (fun _ h => by cases h)) .nil), ?_, rfl⟩
  rfl
theorem arm62_1 {p : Prop} (h : p := by first | exact OpH.move (v := .val _) rfl | exact OpH.move (v := .sl _ _) rfl | exact OpH.move (v := .row _ _ _ _) rfl | exact OpH.move (v := .full _ _) rfl | exact OpH.move (v := .ptr _ _) rfl | exact OpH.move (v := .cptr _) rfl | exact OpH.move (v := .cloB _ _) rfl | exact OpH.move (v := .clo _ _) rfl | exact OpH.move (v := .pr _) rfl | exact OpH.move (v := .arow _) rfl | exact OpH.move (v := .aptr _ _ _ _) rfl | exact OpH.move (v := .asub _ _ _ _) rfl | exact OpH.move (v := .tup _) rfl | exact OpH.bin rfl rfl (pb_sub (by omega)) | exact OpH.bin rfl rfl (pb_subw) | exact OpH.indexAC (t := 31) (k := 1) (n := 2) rfl rfl rfl (by kernel_rfl) (by decide) rfl | exact OpH.indexAB (t := 31) (k := 1) (n := 2) rfl rfl rfl (by kernel_rfl) (by decide) rfl | exact loadC2 (t := 31) rfl (by kernel_rfl) | exact loadB2 (t := 31) rfl rfl (by kernel_rfl) rfl) : p := h
set_option maxRecDepth 100000 in
set_option maxHeartbeats 2000000 in
theorem g_bit (k : Nat) (hk : k < 128) : Good Try.prog 62 [.val (.int .i64 (k : Nat))] (.val (.agg #[.int .u64 (aBit k).x, .int .u64 (aBit k).y])) := by
  refine Good.of_body (T := [(0, _)]) Try.func62 rfl rfl rfl ?_
  intro K0 w0 hno
  unfold aBit
  by_cases h : k < 64
  · rw [if_pos h]
    repeat' (first | refine CT.seqR ?_ | refine CT.region ?_ | refine CT.seq1 ?_ | refine CT.block ?_ | refine CT.condT rfl ?_ | refine CT.condF rfl ?_ | refine CT.condD rfl (fun _ => ?_) (fun _ => ?_) | refine CT.condN rfl (fun _ => ?_) (fun _ => ?_) | refine CT.cond rfl (fun _ => ?_) (fun _ => ?_) | refine CT.skip ?_ | refine CT.exit ?_ | refine CT.ret ?_ | refine LT.nil ?_ | refine HT.nil1 ?_ | (refine LT.consT ?_; (first | refine T.alloc (e := 31) (z := .agg #[.int .u64 0, .int .u64 0]) (cs := [.val (.int .u64 0), .val (.int .u64 0)]) (by kernel_rfl) rfl (by decide) rfl rfl ?_ | refine T.store (t := 28) rfl rfl rfl (by kernel_rfl) (by kernel_rfl) (Nat.le_of_ble_eq_true (by kernel_rfl)) rfl rfl ?_ | refine T.store (t := 31) rfl rfl rfl (by kernel_rfl) (by kernel_rfl) (Nat.le_of_ble_eq_true (by kernel_rfl)) rfl rfl ?_)) | (apply LT.cons1; (first | exact OpH.bin rfl rfl (pb_quo_lo h) | exact OpH.bin rfl rfl (pb_rem_lo h) | exact OpH.bin rfl rfl (pb_shl1 (m := 63 - k) (by omega) (by omega)) | exact arm62_1); decide))
    refine ⟨by first | exact .inl rfl | exact .inr rfl, _, (.cons (.many 2 (vs := [_, _]) rfl rfl (by kernel_rfl) rfl rfl) .nil), ?_, rfl⟩
    rfl
  · rw [if_neg h]
    repeat' (first | refine CT.seqR ?_ | refine CT.region ?_ | refine CT.seq1 ?_ | refine CT.block ?_ | refine CT.condT rfl ?_ | refine CT.condF rfl ?_ | refine CT.condD rfl (fun _ => ?_) (fun _ => ?_) | refine CT.condN rfl (fun _ => ?_) (fun _ => ?_) | refine CT.cond rfl (fun _ => ?_) (fun _ => ?_) | refine CT.skip ?_ | refine CT.exit ?_ | refine CT.ret ?_ | refine LT.nil ?_ | refine HT.nil1 ?_ | (refine LT.consT ?_; (first | refine T.alloc (e := 31) (z := .agg #[.int .u64 0, .int .u64 0]) (cs := [.val (.int .u64 0), .val (.int .u64 0)]) (by kernel_rfl) rfl (by decide) rfl rfl ?_ | refine T.store (t := 28) rfl rfl rfl (by kernel_rfl) (by kernel_rfl) (Nat.le_of_ble_eq_true (by kernel_rfl)) rfl rfl ?_ | refine T.store (t := 31) rfl rfl rfl (by kernel_rfl) (by kernel_rfl) (Nat.le_of_ble_eq_true (by kernel_rfl)) rfl rfl ?_)) | (apply LT.cons1; (first | exact OpH.bin rfl rfl (pb_quo_hi (by omega) hk) | exact OpH.bin rfl rfl (pb_rem_hi (by omega) hk) | exact OpH.bin rfl rfl (pb_shl1 (m := 127 - k) (by omega) (by omega)) | exact arm62_1); decide))
    refine ⟨by first | exact .inl rfl | exact .inr rfl, _, (.cons (.many 2 (vs := [_, _]) rfl rfl (by kernel_rfl) rfl rfl) .nil), ?_, rfl⟩
    rfl
theorem arm54_1 {p : Prop} (h : p := by first | exact OpH.assign (v := .val _) rfl | exact OpH.assign (v := .sl _ _) rfl | exact OpH.assign (v := .row _ _ _ _) rfl | exact OpH.assign (v := .full _ _) rfl | exact OpH.assign (v := .ptr _ _) rfl | exact OpH.assign (v := .cptr _) rfl | exact OpH.assign (v := .cloB _ _) rfl | exact OpH.assign (v := .clo _ _) rfl | exact OpH.assign (v := .pr _) rfl | exact OpH.assign (v := .arow _) rfl | exact OpH.assign (v := .aptr _ _ _ _) rfl | exact OpH.assign (v := .asub _ _ _ _) rfl | exact OpH.assign (v := .tup _) rfl | exact OpH.move (v := .val _) rfl | exact OpH.move (v := .sl _ _) rfl | exact OpH.move (v := .row _ _ _ _) rfl | exact OpH.move (v := .full _ _) rfl | exact OpH.move (v := .ptr _ _) rfl | exact OpH.move (v := .cptr _) rfl | exact OpH.move (v := .cloB _ _) rfl | exact OpH.move (v := .clo _ _) rfl | exact OpH.move (v := .pr _) rfl | exact OpH.move (v := .arow _) rfl | exact OpH.move (v := .aptr _ _ _ _) rfl | exact OpH.move (v := .asub _ _ _ _) rfl | exact OpH.move (v := .tup _) rfl | exact loadC2 (t := 31) rfl (by kernel_rfl) | exact loadB2 (t := 31) rfl rfl (by kernel_rfl) rfl | exact OpH.callF Try.func63 rfl rfl rfl (g_And _ _ _ _) rfl | exact build_31_  | exact OpH.build (t := 31) (cells := #[_, _]) (by kernel_rfl) rfl | exact OpH.bin rfl rfl (pb_of (pb_agg eqg_31 (neq_31 _ _ _ _)) (nsame_f (by first | rfl | assumption))) | exact OpH.bin rfl rfl (pb_of (pb_agg eqg_31 (neq_31 _ _ _ _)) (nsame_t (by assumption))) | exact OpH.bin rfl rfl (pb_agg eqg_31 (neq_31 _ _ _ _)) | exact OpH.pick (b := true) (v := .val _) rfl rfl | exact OpH.pick (b := false) (v := .val _) rfl rfl | exact OpH.pick (b := true) (v := .sl _ _) rfl rfl | exact OpH.pick (b := false) (v := .sl _ _) rfl rfl | exact OpH.pick (b := true) (v := .row _ _ _ _) rfl rfl | exact OpH.pick (b := false) (v := .row _ _ _ _) rfl rfl | exact OpH.pick (b := true) (v := .full _ _) rfl rfl | exact OpH.pick (b := false) (v := .full _ _) rfl rfl | exact OpH.pickV rfl rfl rfl) : p := h
set_option maxRecDepth 100000 in
set_option maxHeartbeats 2000000 in
theorem g_Bit (a0 a1 : Int) (ha : A2.ok ⟨a0, a1⟩) (k : Nat) (hk : k < 128) : Good Try.prog 54 [.val (.agg #[.int .u64 a0, .int .u64 a1]), .val (.int .i64 (k : Nat))] (.val (.bool (abit ⟨a0, a1⟩ k))) := by
  have gi := g_is k hk
  have gb := g_bit k hk
  have hab := and_bit ha hk
  refine Good.of_body (T := [(0, _), (1, _)]) Try.func54 rfl rfl rfl ?_
  intro K0 w0 hno
  cases hb : abit ⟨a0, a1⟩ k with
  | false =>
    have h1 : (⟨(aAnd ⟨a0, a1⟩ (aBit k)).x, (aAnd ⟨a0, a1⟩ (aBit k)).y⟩ : A2) = ⟨0, 0⟩ := hab.2 hb
    repeat' (first | refine CT.seqR ?_ | refine CT.seqD (id := 1) 10 (by kernel_rfl) (by kernel_rfl) ?_ | refine CT.draw (id := 1) 10 (by kernel_rfl) (by kernel_rfl) ?_ | refine CT.region ?_ | refine CT.seq1 ?_ | refine CT.block ?_ | refine CT.condT rfl ?_ | refine CT.condF rfl ?_ | refine CT.condD rfl (fun _ => ?_) (fun _ => ?_) | refine CT.condN rfl (fun _ => ?_) (fun _ => ?_) | refine CT.cond rfl (fun _ => ?_) (fun _ => ?_) | refine CT.skip ?_ | refine CT.exit ?_ | refine CT.ret ?_ | refine LT.nil ?_ | refine HT.nil1 ?_ | (refine LT.consT ?_; (first | refine T.box (e := 31) (cs := [.val _, .val _]) rfl rfl (by decide) rfl rfl ?_)) | ((first | apply LT.cons1 | (apply LT.guard1; rfl; rfl; rfl; decide) | apply HT.cons1 | (apply HT.guard1; rfl; rfl; rfl)); (first | exact OpH.callF Try.func60 rfl rfl rfl gi rfl | exact OpH.callF Try.func62 rfl rfl rfl gb rfl | exact arm54_1); (try decide)) | refine LT.skip1 rfl rfl rfl (by decide) (by decide) ?_ | refine LT.skip2 rfl rfl (by decide) (by decide) ?_ | refine LT.partD rfl rfl (fun _ => ?_) (fun _ => ?_) | refine LT.partN rfl rfl (fun _ => ?_) (fun _ => ?_) | refine HT.skip1 rfl rfl rfl ?_ | refine HT.skip2 rfl rfl ?_ | refine HT.partD rfl rfl (fun _ => ?_) (fun _ => ?_) | refine HT.partN rfl rfl (fun _ => ?_) (fun _ => ?_) | ((first | refine LT.part1 rfl rfl (fun h => ?_) (fun h => ?_) | refine HT.part1 rfl rfl (fun h => ?_) (fun h => ?_)); (fail_if_success exact absurd h (by decide)); rotate_left; (fail_if_success exact absurd h (by decide)); rotate_left))
    refine ⟨by first | exact .inl rfl | exact .inr rfl, _, (.cons (.tmp 4 (A := .val _) rfl (fun _ h => by cases h)) .nil), ?_, rfl⟩
    rfl
  | true =>
    have h1 : ¬ (⟨(aAnd ⟨a0, a1⟩ (aBit k)).x, (aAnd ⟨a0, a1⟩ (aBit k)).y⟩ : A2) = ⟨0, 0⟩ := fun h => by rw [hab.1 h] at hb; cases hb
    repeat' (first | refine CT.seqR ?_ | refine CT.seqD (id := 1) 10 (by kernel_rfl) (by kernel_rfl) ?_ | refine CT.draw (id := 1) 10 (by kernel_rfl) (by kernel_rfl) ?_ | refine CT.region ?_ | refine CT.seq1 ?_ | refine CT.block ?_ | refine CT.condT rfl ?_ | refine CT.condF rfl ?_ | refine CT.condD rfl (fun _ => ?_) (fun _ => ?_) | refine CT.condN rfl (fun _ => ?_) (fun _ => ?_) | refine CT.cond rfl (fun _ => ?_) (fun _ => ?_) | refine CT.skip ?_ | refine CT.exit ?_ | refine CT.ret ?_ | refine LT.nil ?_ | refine HT.nil1 ?_ | (refine LT.consT ?_; (first | refine T.box (e := 31) (cs := [.val _, .val _]) rfl rfl (by decide) rfl rfl ?_)) | ((first | apply LT.cons1 | (apply LT.guard1; rfl; rfl; rfl; decide) | apply HT.cons1 | (apply HT.guard1; rfl; rfl; rfl)); (first | exact OpH.callF Try.func60 rfl rfl rfl gi rfl | exact OpH.callF Try.func62 rfl rfl rfl gb rfl | exact arm54_1); (try decide)) | refine LT.skip1 rfl rfl rfl (by decide) (by decide) ?_ | refine LT.skip2 rfl rfl (by decide) (by decide) ?_ | refine LT.partD rfl rfl (fun _ => ?_) (fun _ => ?_) | refine LT.partN rfl rfl (fun _ => ?_) (fun _ => ?_) | refine HT.skip1 rfl rfl rfl ?_ | refine HT.skip2 rfl rfl ?_ | refine HT.partD rfl rfl (fun _ => ?_) (fun _ => ?_) | refine HT.partN rfl rfl (fun _ => ?_) (fun _ => ?_) | ((first | refine LT.part1 rfl rfl (fun h => ?_) (fun h => ?_) | refine HT.part1 rfl rfl (fun h => ?_) (fun h => ?_)); (fail_if_success exact absurd h (by decide)); rotate_left; (fail_if_success exact absurd h (by decide)); rotate_left))
    refine ⟨by first | exact .inl rfl | exact .inr rfl, _, (.cons (.tmp 4 (A := .val _) rfl (fun _ h => by cases h)) .nil), ?_, rfl⟩
    rfl
theorem arm38_1 {p : Prop} (h : p := by first | exact OpH.assign (v := .val _) rfl | exact OpH.assign (v := .sl _ _) rfl | exact OpH.assign (v := .row _ _ _ _) rfl | exact OpH.assign (v := .full _ _) rfl | exact OpH.assign (v := .ptr _ _) rfl | exact OpH.assign (v := .cptr _) rfl | exact OpH.assign (v := .cloB _ _) rfl | exact OpH.assign (v := .clo _ _) rfl | exact OpH.assign (v := .pr _) rfl | exact OpH.assign (v := .arow _) rfl | exact OpH.assign (v := .aptr _ _ _ _) rfl | exact OpH.assign (v := .asub _ _ _ _) rfl | exact OpH.assign (v := .tup _) rfl | exact loadC2 (t := 31) rfl (by kernel_rfl) | exact loadB2 (t := 31) rfl rfl (by kernel_rfl) rfl | exact OpH.move (v := .val _) rfl | exact OpH.move (v := .sl _ _) rfl | exact OpH.move (v := .row _ _ _ _) rfl | exact OpH.move (v := .full _ _) rfl | exact OpH.move (v := .ptr _ _) rfl | exact OpH.move (v := .cptr _) rfl | exact OpH.move (v := .cloB _ _) rfl | exact OpH.move (v := .clo _ _) rfl | exact OpH.move (v := .pr _) rfl | exact OpH.move (v := .arow _) rfl | exact OpH.move (v := .aptr _ _ _ _) rfl | exact OpH.move (v := .asub _ _ _ _) rfl | exact OpH.move (v := .tup _) rfl) : p := h
set_option maxRecDepth 100000 in
set_option maxHeartbeats 2000000 in
theorem g_side (a0 a1 : Int) (ha : A2.ok ⟨a0, a1⟩) (k : Nat) (hk : k < 128) : Good Try.prog 38 [.val (.agg #[.int .u64 a0, .int .u64 a1]), .val (.int .i64 (k : Nat))] (.val (.int .i64 ((abit ⟨a0, a1⟩ k).toNat : Nat))) := by
  have gb := g_Bit a0 a1 ha k hk
  refine Good.of_body (T := [(0, _), (1, _)]) Try.func38 rfl rfl rfl ?_
  intro K0 w0 hno
  cases hb : abit ⟨a0, a1⟩ k with
  | false =>
    rw [hb] at gb
    repeat' (first | refine CT.seqR ?_ | refine CT.region ?_ | refine CT.seq1 ?_ | refine CT.block ?_ | refine CT.condT rfl ?_ | refine CT.condF rfl ?_ | refine CT.condD rfl (fun _ => ?_) (fun _ => ?_) | refine CT.condN rfl (fun _ => ?_) (fun _ => ?_) | refine CT.cond rfl (fun _ => ?_) (fun _ => ?_) | refine CT.skip ?_ | refine CT.exit ?_ | refine CT.ret ?_ | refine LT.nil ?_ | refine HT.nil1 ?_ | (refine LT.consT ?_; (first | refine T.box (e := 31) (cs := [.val _, .val _]) rfl rfl (by decide) rfl rfl ?_)) | (apply LT.cons1; (first | exact OpH.callF Try.func54 rfl rfl rfl gb rfl | exact arm38_1); decide))
    refine ⟨by first | exact .inl rfl | exact .inr rfl, _, (.cons (.tmp 4 (A := .val _) rfl (fun _ h => by cases h)) .nil), ?_, rfl⟩
    rfl
  | true =>
    rw [hb] at gb
    repeat' (first | refine CT.seqR ?_ | refine CT.region ?_ | refine CT.seq1 ?_ | refine CT.block ?_ | refine CT.condT rfl ?_ | refine CT.condF rfl ?_ | refine CT.condD rfl (fun _ => ?_) (fun _ => ?_) | refine CT.condN rfl (fun _ => ?_) (fun _ => ?_) | refine CT.cond rfl (fun _ => ?_) (fun _ => ?_) | refine CT.skip ?_ | refine CT.exit ?_ | refine CT.ret ?_ | refine LT.nil ?_ | refine HT.nil1 ?_ | (refine LT.consT ?_; (first | refine T.box (e := 31) (cs := [.val _, .val _]) rfl rfl (by decide) rfl rfl ?_)) | (apply LT.cons1; (first | exact OpH.callF Try.func54 rfl rfl rfl gb rfl | exact arm38_1); decide))
    refine ⟨by first | exact .inl rfl | exact .inr rfl, _, (.cons (.tmp 4 (A := .val _) rfl (fun _ h => by cases h)) .nil), ?_, rfl⟩
    rfl
end Go.Proofs.Ytkfmammkbmhfaaa
