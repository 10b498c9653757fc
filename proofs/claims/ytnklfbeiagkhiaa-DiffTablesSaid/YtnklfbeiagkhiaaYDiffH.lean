/- Abstract contracts: diff.Count, diff.Steps. -/
import Derived.Test.YtnklfbeiagkhiaaYDiffA
import Derived.Test.YtnklfbeiagkhiaaYBack
namespace Go.Proofs.Ytnklfbeiagkhiaa
set_option linter.unusedSimpArgs false
set_option linter.unusedVariables false
open Go Go.RowKit Go.Shelf
/-- How many steps there are of a kind. -/
def cnt (j : Int) (l : List Stp) : Nat := (l.filter fun s => decide (s.kind = j)).length
theorem cnt_step {j : Int} {l : List Stp} {k : Nat} (hk : k < l.length) : cnt j (l.take (k + 1)) = cnt j (l.take k) + (if l[k].kind = j then 1 else 0) := by
  unfold cnt
  rw [List.take_succ_eq_append_getElem hk, List.filter_append, List.length_append]
  by_cases h : l[k].kind = j <;> simp [h]
theorem cnt_le (j : Int) (l : List Stp) : cnt j l ≤ l.length := List.length_filter_le _ _
/-- The step that has an entry stand in a row. -/
def addStep (a : List Ent) (x : Ent) : List Stp := if firstAt (fun y => eAlike x y) a < 0 then [⟨0, x⟩] else if (nth a (firstAt (fun y => eAlike x y) a).toNat).act = x.act then [] else [⟨1, x⟩]
def dropStep (b : List Ent) (x : Ent) : List Stp := if firstAt (fun y => eAlike x y) b < 0 then [⟨2, x⟩] else []
def stepsOf (old new : List Ent) : List Stp := (sortE (once new)).flatMap (addStep (once old)) ++ (sortE (once old)).reverse.flatMap (dropStep (once new))
theorem addStep_length (a : List Ent) (x : Ent) : (addStep a x).length ≤ 1 := by unfold addStep; split <;> (try split) <;> simp
theorem dropStep_length (a : List Ent) (x : Ent) : (dropStep a x).length ≤ 1 := by unfold dropStep; split <;> simp
theorem flat_le {α β : Type} (f : α → List β) (h : ∀ x, (f x).length ≤ 1) (xs : List α) : (xs.flatMap f).length ≤ xs.length := by
  induction xs with
  | nil => simp
  | cons x xs ih => have := h x; simp only [List.flatMap_cons, List.length_append, List.length_cons]; omega
theorem flat_succ {α β : Type} {f : α → List β} {xs : List α} {k : Nat} (hk : k < xs.length) : (xs.take (k + 1)).flatMap f = (xs.take k).flatMap f ++ f xs[k] := by
  rw [List.take_succ_eq_append_getElem hk, List.flatMap_append]; simp
attribute [local irreducible] OpH OpT LT CT HT Good GoodO CTI
theorem arm57_1 {p : Prop} (h : p := by first | exact OpH.move (v := .val _) rfl | exact OpH.move (v := .sl _ _) rfl | exact OpH.move (v := .row _ _ _ _) rfl | exact OpH.move (v := .full _ _) rfl | exact OpH.move (v := .ptr _ _) rfl | exact OpH.move (v := .cptr _) rfl | exact OpH.move (v := .cloB _ _) rfl | exact OpH.move (v := .clo _ _) rfl | exact OpH.move (v := .pr _) rfl | exact OpH.move (v := .arow _) rfl | exact OpH.move (v := .aptr _ _ _ _) rfl | exact OpH.move (v := .asub _ _ _ _) rfl | exact OpH.move (v := .tup _) rfl | exact OpH.lenM (t := 81) rfl (.sl _ _) (by kernel_rfl) | exact OpH.lenM (t := 81) rfl (.row _ _ _ _) (by kernel_rfl) | exact OpH.lenM (t := 81) rfl (.full _ _) (by kernel_rfl) | exact OpH.len (t := 81) rfl slP (by kernel_rfl) | exact OpH.lenNil (t := 81) rfl (by kernel_rfl) | exact OpH.bin rfl rfl (pb_lss_t (by omega)) | exact OpH.bin rfl rfl (pb_lss_f (by omega)) | exact OpH.bin rfl rfl (pb_lss) | exact OpH.indexS (t := 81) (k := 7) rfl slP rfl rfl (by kernel_rfl) (map_at bd) rfl | exact loadC7 (t := 74) rfl (by kernel_rfl) | exact loadB7 (t := 74) rfl rfl (by kernel_rfl) rfl | exact OpH.fieldC (s := 74) (f := 0) (off := 0) rfl (by kernel_rfl) rfl | exact OpH.fieldB (s := 74) (f := 0) (off := 0) rfl (by kernel_rfl) rfl | exact OpH.loadC1 (t := 3) rfl (by kernel_rfl) rfl | exact OpH.loadB1 (t := 3) rfl rfl (by kernel_rfl) rfl | exact OpH.bin rfl rfl (pb_geq_t (by omega)) | exact OpH.bin rfl rfl (pb_geq_f (by omega)) | exact OpH.bin rfl rfl (pb_geq) | exact OpH.bin rfl rfl (pb_leq_t (by omega)) | exact OpH.bin rfl rfl (pb_leq_f (by omega)) | exact OpH.bin rfl rfl (pb_leq) | exact OpH.pick (b := true) (v := .val _) rfl rfl | exact OpH.pick (b := false) (v := .val _) rfl rfl | exact OpH.pick (b := true) (v := .sl _ _) rfl rfl | exact OpH.pick (b := false) (v := .sl _ _) rfl rfl | exact OpH.pick (b := true) (v := .row _ _ _ _) rfl rfl | exact OpH.pick (b := false) (v := .row _ _ _ _) rfl rfl | exact OpH.pick (b := true) (v := .full _ _) rfl rfl | exact OpH.pick (b := false) (v := .full _ _) rfl rfl | exact OpH.pickV rfl rfl rfl | exact OpH.indexAC (t := 102) (k := 1) (n := 3) rfl rfl rfl (by kernel_rfl) (by decide) rfl | exact OpH.indexAB (t := 102) (k := 1) (n := 3) rfl rfl rfl (by kernel_rfl) (by decide) rfl | exact OpH.bin rfl rfl (pb_inc (by omega)) | exact OpH.bin rfl rfl (pb_addN rfl (by omega)) | exact OpH.bin rfl rfl (pb_add (by omega)) | exact OpH.bin rfl rfl (pb_addw) | exact loadC3 (t := 102) rfl (by kernel_rfl) | exact loadB3 (t := 102) rfl rfl (by kernel_rfl) rfl) : p := h
set_option maxRecDepth 100000 in
set_option maxHeartbeats 2000000 in
theorem g_Count (l : List Stp) (hl : l.length ≤ 65536) : Good Try.prog 57 [.sl 7 (l.map encD)] (.val (.agg #[.int .i64 (cnt 0 l : Nat), .int .i64 (cnt 1 l : Nat), .int .i64 (cnt 2 l : Nat)])) := by
  refine Good.of_body (T := [(0, _)]) Try.func57 rfl rfl rfl ?_
  intro K0 w0 hno
  repeat' (first | refine CT.seqR ?_ | refine CT.region ?_ | refine CT.seq1 ?_ | refine CT.block ?_ | refine CT.condT rfl ?_ | refine CT.condF rfl ?_ | refine CT.condD rfl (fun _ => ?_) (fun _ => ?_) | refine CT.condN rfl (fun _ => ?_) (fun _ => ?_) | refine CT.cond rfl (fun _ => ?_) (fun _ => ?_) | refine CT.skip ?_ | refine CT.exit ?_ | refine CT.ret ?_ | refine CT.goto ?_ | refine CT.label ?_ | refine LT.nil ?_ | refine HT.nil1 ?_ | (refine LT.consT ?_; (first | refine T.alloc (e := 102) (z := .agg #[.int .i64 0, .int .i64 0, .int .i64 0]) (cs := [.val (.int .i64 0), .val (.int .i64 0), .val (.int .i64 0)]) (by kernel_rfl) rfl (by decide) rfl rfl ?_ | refine T.alloc (e := 74) (z := .agg #[.int .i64 0, .int .u64 0, .int .u64 0, .int .u64 0, .int .u64 0, .int .i64 0, .int .i64 0]) (cs := [.val (.int .i64 0), .val (.int .u64 0), .val (.int .u64 0), .val (.int .u64 0), .val (.int .u64 0), .val (.int .i64 0), .val (.int .i64 0)]) (by kernel_rfl) rfl (by decide) rfl rfl ?_ | refine T.store (t := 74) rfl rfl rfl (by kernel_rfl) (by kernel_rfl) (Nat.le_of_ble_eq_true (by kernel_rfl)) rfl rfl ?_ | refine T.store (t := 3) rfl rfl rfl (by kernel_rfl) (by kernel_rfl) (Nat.le_of_ble_eq_true (by kernel_rfl)) rfl rfl ?_ | refine T.store (t := 102) rfl rfl rfl (by kernel_rfl) (by kernel_rfl) (Nat.le_of_ble_eq_true (by kernel_rfl)) rfl rfl ?_)) | ((first | apply LT.cons1 | (apply LT.guard1; rfl; rfl; rfl; decide)); (first | exact arm57_1); decide) | refine LT.skip1 rfl rfl rfl (by decide) (by decide) ?_ | refine LT.skip2 rfl rfl (by decide) (by decide) ?_ | refine LT.partD rfl rfl (fun _ => ?_) (fun _ => ?_) | refine LT.partN rfl rfl (fun _ => ?_) (fun _ => ?_) | (refine LT.part1 rfl rfl (fun h => ?_) (fun h => ?_); (fail_if_success exact absurd h (by decide)); rotate_left; (fail_if_success exact absurd h (by decide)); rotate_left))
  refine CT.loopX (fun k : Nat => (⟨[(2, .ptr 2 0), (3, .ptr 3 0), (6, .sl 7 (l.map encD)), (7, .val (.int .i64 l.length)), (8, .val (.int .i64 k))], [(2, [.val (.int .i64 0), .val (.int .i64 0), .val (.int .i64 0)]), (3, [.val (.int .i64 (cnt 0 (l.take k) : Nat)), .val (.int .i64 (cnt 1 (l.take k) : Nat)), .val (.int .i64 (cnt 2 (l.take k) : Nat))])], []⟩ : St))
    (fun k => k ≤ l.length) (fun k => l.length - k) 0 ?_ (by omega) ?_
  · (apply Sub.mk; (focus (repeat (first | exact .nil | refine .other (.keep rfl rfl) ?_ | refine .other (.aref rfl rfl rfl) ?_ | refine .other (.val rfl (by first | rfl | (congr 1; first | omega | assumption | (symm; assumption)) | (simp; omega))) ?_ | refine .other .dead ?_ | refine .other (.sl rfl (.row _ _ _ _) rfl) ?_ | refine .other (.sl rfl (.sl _ _) rfl) ?_ | refine .other (.sl rfl (.full _ _) rfl) ?_ | refine .other (.slNil rfl rfl) ?_ | refine .rowNil rfl rfl rfl ?_ | refine .row rfl (by first | rfl | assumption | (rw [← List.map_append]; first | done | rfl | congr 1)) rfl rfl ?_))); (focus (repeat (first | exact .nil | refine KeepB.same rfl rfl rfl ?_ | refine KeepB.sameA rfl rfl rfl ?_))); (focus (repeat (first | exact .nil | refine KeepA.cons rfl (by first | rfl | assumption | exact List.map_set | exact List.map_set.symm | (rw [← List.map_append]; first | done | rfl | congr 1) | (congr 1; first | omega | assumption)) ?_))))
  rintro k hk
  by_cases hlt : k < l.length
  · have hc0 := cnt_step (j := 0) hlt
    have hc1 := cnt_step (j := 1) hlt
    have hc2 := cnt_step (j := 2) hlt
    have b0 := cnt_le 0 (l.take k)
    have b1 := cnt_le 1 (l.take k)
    have b2 := cnt_le 2 (l.take k)
    have hkk : (l.take k).length = k := by simp; omega
    obtain ⟨n0, e0⟩ : ∃ n, cnt 0 (l.take k) = n := ⟨_, rfl⟩
    obtain ⟨n1, e1⟩ : ∃ n, cnt 1 (l.take k) = n := ⟨_, rfl⟩
    obtain ⟨n2, e2⟩ : ∃ n, cnt 2 (l.take k) = n := ⟨_, rfl⟩
    rw [e0] at hc0 b0 ⊢
    rw [e1] at hc1 b1 ⊢
    rw [e2] at hc2 b2 ⊢
    by_cases h0 : l[k].kind = 0
    · rw [if_pos h0] at hc0
      rw [if_neg (by omega), Nat.add_zero] at hc1 hc2
      repeat' (first | refine CT.seqR ?_ | refine CT.region ?_ | refine CT.seq1 ?_ | refine CT.block ?_ | refine CT.condT rfl ?_ | refine CT.condF rfl ?_ | refine CT.condD rfl (fun _ => ?_) (fun _ => ?_) | refine CT.condN rfl (fun _ => ?_) (fun _ => ?_) | refine CT.cond rfl (fun _ => ?_) (fun _ => ?_) | refine CT.skip ?_ | refine CT.exit ?_ | refine CT.ret ?_ | refine CT.goto ?_ | refine CT.label ?_ | refine LT.nil ?_ | refine HT.nil1 ?_ | (refine LT.consT ?_; (first | refine T.alloc (e := 102) (z := .agg #[.int .i64 0, .int .i64 0, .int .i64 0]) (cs := [.val (.int .i64 0), .val (.int .i64 0), .val (.int .i64 0)]) (by kernel_rfl) rfl (by decide) rfl rfl ?_ | refine T.alloc (e := 74) (z := .agg #[.int .i64 0, .int .u64 0, .int .u64 0, .int .u64 0, .int .u64 0, .int .i64 0, .int .i64 0]) (cs := [.val (.int .i64 0), .val (.int .u64 0), .val (.int .u64 0), .val (.int .u64 0), .val (.int .u64 0), .val (.int .i64 0), .val (.int .i64 0)]) (by kernel_rfl) rfl (by decide) rfl rfl ?_ | refine T.store (t := 74) rfl rfl rfl (by kernel_rfl) (by kernel_rfl) (Nat.le_of_ble_eq_true (by kernel_rfl)) rfl rfl ?_ | refine T.store (t := 3) rfl rfl rfl (by kernel_rfl) (by kernel_rfl) (Nat.le_of_ble_eq_true (by kernel_rfl)) rfl rfl ?_ | refine T.store (t := 102) rfl rfl rfl (by kernel_rfl) (by kernel_rfl) (Nat.le_of_ble_eq_true (by kernel_rfl)) rfl rfl ?_)) | ((first | apply LT.cons1 | (apply LT.guard1; rfl; rfl; rfl; decide)); (first | exact OpH.indexAB (t := 102) (n := 3) (k := 1) (j := 0) rfl rfl h0 (by kernel_rfl) (by decide) rfl | exact arm57_1); decide) | refine LT.skip1 rfl rfl rfl (by decide) (by decide) ?_ | refine LT.skip2 rfl rfl (by decide) (by decide) ?_ | refine LT.partD rfl rfl (fun _ => ?_) (fun _ => ?_) | refine LT.partN rfl rfl (fun _ => ?_) (fun _ => ?_) | (refine LT.part1 rfl rfl (fun h => ?_) (fun h => ?_); (fail_if_success exact absurd h (by decide)); rotate_left; (fail_if_success exact absurd h (by decide)); rotate_left))
      refine ⟨k + 1, by omega, by omega, ?_⟩
      rw [hc0, hc1, hc2]
      (apply Sub.mk; (focus (repeat (first | exact .nil | refine .other (.keep rfl rfl) ?_ | refine .other (.aref rfl rfl rfl) ?_ | refine .other (.val rfl (by first | rfl | (congr 1; first | omega | assumption | (symm; assumption)) | (simp; omega))) ?_ | refine .other .dead ?_ | refine .other (.sl rfl (.row _ _ _ _) rfl) ?_ | refine .other (.sl rfl (.sl _ _) rfl) ?_ | refine .other (.sl rfl (.full _ _) rfl) ?_ | refine .other (.slNil rfl rfl) ?_ | refine .rowNil rfl rfl rfl ?_ | refine .row rfl (by first | rfl | assumption | (rw [← List.map_append]; first | done | rfl | congr 1)) rfl rfl ?_))); (focus (repeat (first | exact .nil | refine KeepB.same rfl rfl rfl ?_ | refine KeepB.sameA rfl rfl rfl ?_))); (focus (repeat (first | exact .nil | refine KeepA.cons rfl (by first | rfl | assumption | exact List.map_set | exact List.map_set.symm | (rw [← List.map_append]; first | done | rfl | congr 1) | (congr 1; first | omega | assumption)) ?_))))
    · by_cases h1 : l[k].kind = 1
      · rw [if_pos h1] at hc1
        rw [if_neg (by omega), Nat.add_zero] at hc0 hc2
        repeat' (first | refine CT.seqR ?_ | refine CT.region ?_ | refine CT.seq1 ?_ | refine CT.block ?_ | refine CT.condT rfl ?_ | refine CT.condF rfl ?_ | refine CT.condD rfl (fun _ => ?_) (fun _ => ?_) | refine CT.condN rfl (fun _ => ?_) (fun _ => ?_) | refine CT.cond rfl (fun _ => ?_) (fun _ => ?_) | refine CT.skip ?_ | refine CT.exit ?_ | refine CT.ret ?_ | refine CT.goto ?_ | refine CT.label ?_ | refine LT.nil ?_ | refine HT.nil1 ?_ | (refine LT.consT ?_; (first | refine T.alloc (e := 102) (z := .agg #[.int .i64 0, .int .i64 0, .int .i64 0]) (cs := [.val (.int .i64 0), .val (.int .i64 0), .val (.int .i64 0)]) (by kernel_rfl) rfl (by decide) rfl rfl ?_ | refine T.alloc (e := 74) (z := .agg #[.int .i64 0, .int .u64 0, .int .u64 0, .int .u64 0, .int .u64 0, .int .i64 0, .int .i64 0]) (cs := [.val (.int .i64 0), .val (.int .u64 0), .val (.int .u64 0), .val (.int .u64 0), .val (.int .u64 0), .val (.int .i64 0), .val (.int .i64 0)]) (by kernel_rfl) rfl (by decide) rfl rfl ?_ | refine T.store (t := 74) rfl rfl rfl (by kernel_rfl) (by kernel_rfl) (Nat.le_of_ble_eq_true (by kernel_rfl)) rfl rfl ?_ | refine T.store (t := 3) rfl rfl rfl (by kernel_rfl) (by kernel_rfl) (Nat.le_of_ble_eq_true (by kernel_rfl)) rfl rfl ?_ | refine T.store (t := 102) rfl rfl rfl (by kernel_rfl) (by kernel_rfl) (Nat.le_of_ble_eq_true (by kernel_rfl)) rfl rfl ?_)) | ((first | apply LT.cons1 | (apply LT.guard1; rfl; rfl; rfl; decide)); (first | exact OpH.indexAB (t := 102) (n := 3) (k := 1) (j := 1) rfl rfl h1 (by kernel_rfl) (by decide) rfl | exact arm57_1); decide) | refine LT.skip1 rfl rfl rfl (by decide) (by decide) ?_ | refine LT.skip2 rfl rfl (by decide) (by decide) ?_ | refine LT.partD rfl rfl (fun _ => ?_) (fun _ => ?_) | refine LT.partN rfl rfl (fun _ => ?_) (fun _ => ?_) | (refine LT.part1 rfl rfl (fun h => ?_) (fun h => ?_); (fail_if_success exact absurd h (by decide)); rotate_left; (fail_if_success exact absurd h (by decide)); rotate_left))
        refine ⟨k + 1, by omega, by omega, ?_⟩
        rw [hc0, hc1, hc2]
        (apply Sub.mk; (focus (repeat (first | exact .nil | refine .other (.keep rfl rfl) ?_ | refine .other (.aref rfl rfl rfl) ?_ | refine .other (.val rfl (by first | rfl | (congr 1; first | omega | assumption | (symm; assumption)) | (simp; omega))) ?_ | refine .other .dead ?_ | refine .other (.sl rfl (.row _ _ _ _) rfl) ?_ | refine .other (.sl rfl (.sl _ _) rfl) ?_ | refine .other (.sl rfl (.full _ _) rfl) ?_ | refine .other (.slNil rfl rfl) ?_ | refine .rowNil rfl rfl rfl ?_ | refine .row rfl (by first | rfl | assumption | (rw [← List.map_append]; first | done | rfl | congr 1)) rfl rfl ?_))); (focus (repeat (first | exact .nil | refine KeepB.same rfl rfl rfl ?_ | refine KeepB.sameA rfl rfl rfl ?_))); (focus (repeat (first | exact .nil | refine KeepA.cons rfl (by first | rfl | assumption | exact List.map_set | exact List.map_set.symm | (rw [← List.map_append]; first | done | rfl | congr 1) | (congr 1; first | omega | assumption)) ?_))))
      · by_cases h2 : l[k].kind = 2
        · rw [if_pos h2] at hc2
          rw [if_neg (by omega), Nat.add_zero] at hc0 hc1
          repeat' (first | refine CT.seqR ?_ | refine CT.region ?_ | refine CT.seq1 ?_ | refine CT.block ?_ | refine CT.condT rfl ?_ | refine CT.condF rfl ?_ | refine CT.condD rfl (fun _ => ?_) (fun _ => ?_) | refine CT.condN rfl (fun _ => ?_) (fun _ => ?_) | refine CT.cond rfl (fun _ => ?_) (fun _ => ?_) | refine CT.skip ?_ | refine CT.exit ?_ | refine CT.ret ?_ | refine CT.goto ?_ | refine CT.label ?_ | refine LT.nil ?_ | refine HT.nil1 ?_ | (refine LT.consT ?_; (first | refine T.alloc (e := 102) (z := .agg #[.int .i64 0, .int .i64 0, .int .i64 0]) (cs := [.val (.int .i64 0), .val (.int .i64 0), .val (.int .i64 0)]) (by kernel_rfl) rfl (by decide) rfl rfl ?_ | refine T.alloc (e := 74) (z := .agg #[.int .i64 0, .int .u64 0, .int .u64 0, .int .u64 0, .int .u64 0, .int .i64 0, .int .i64 0]) (cs := [.val (.int .i64 0), .val (.int .u64 0), .val (.int .u64 0), .val (.int .u64 0), .val (.int .u64 0), .val (.int .i64 0), .val (.int .i64 0)]) (by kernel_rfl) rfl (by decide) rfl rfl ?_ | refine T.store (t := 74) rfl rfl rfl (by kernel_rfl) (by kernel_rfl) (Nat.le_of_ble_eq_true (by kernel_rfl)) rfl rfl ?_ | refine T.store (t := 3) rfl rfl rfl (by kernel_rfl) (by kernel_rfl) (Nat.le_of_ble_eq_true (by kernel_rfl)) rfl rfl ?_ | refine T.store (t := 102) rfl rfl rfl (by kernel_rfl) (by kernel_rfl) (Nat.le_of_ble_eq_true (by kernel_rfl)) rfl rfl ?_)) | ((first | apply LT.cons1 | (apply LT.guard1; rfl; rfl; rfl; decide)); (first | exact OpH.indexAB (t := 102) (n := 3) (k := 1) (j := 2) rfl rfl h2 (by kernel_rfl) (by decide) rfl | exact arm57_1); decide) | refine LT.skip1 rfl rfl rfl (by decide) (by decide) ?_ | refine LT.skip2 rfl rfl (by decide) (by decide) ?_ | refine LT.partD rfl rfl (fun _ => ?_) (fun _ => ?_) | refine LT.partN rfl rfl (fun _ => ?_) (fun _ => ?_) | (refine LT.part1 rfl rfl (fun h => ?_) (fun h => ?_); (fail_if_success exact absurd h (by decide)); rotate_left; (fail_if_success exact absurd h (by decide)); rotate_left))
          refine ⟨k + 1, by omega, by omega, ?_⟩
          rw [hc0, hc1, hc2]
          (apply Sub.mk; (focus (repeat (first | exact .nil | refine .other (.keep rfl rfl) ?_ | refine .other (.aref rfl rfl rfl) ?_ | refine .other (.val rfl (by first | rfl | (congr 1; first | omega | assumption | (symm; assumption)) | (simp; omega))) ?_ | refine .other .dead ?_ | refine .other (.sl rfl (.row _ _ _ _) rfl) ?_ | refine .other (.sl rfl (.sl _ _) rfl) ?_ | refine .other (.sl rfl (.full _ _) rfl) ?_ | refine .other (.slNil rfl rfl) ?_ | refine .rowNil rfl rfl rfl ?_ | refine .row rfl (by first | rfl | assumption | (rw [← List.map_append]; first | done | rfl | congr 1)) rfl rfl ?_))); (focus (repeat (first | exact .nil | refine KeepB.same rfl rfl rfl ?_ | refine KeepB.sameA rfl rfl rfl ?_))); (focus (repeat (first | exact .nil | refine KeepA.cons rfl (by first | rfl | assumption | exact List.map_set | exact List.map_set.symm | (rw [← List.map_append]; first | done | rfl | congr 1) | (congr 1; first | omega | assumption)) ?_))))
        · rw [if_neg (by omega), Nat.add_zero] at hc0 hc1 hc2
          by_cases h3 : 0 ≤ l[k].kind
          · have h4 : ¬ l[k].kind ≤ 2 := by omega
            repeat' (first | refine CT.seqR ?_ | refine CT.region ?_ | refine CT.seq1 ?_ | refine CT.block ?_ | refine CT.condT rfl ?_ | refine CT.condF rfl ?_ | refine CT.condD rfl (fun _ => ?_) (fun _ => ?_) | refine CT.condN rfl (fun _ => ?_) (fun _ => ?_) | refine CT.cond rfl (fun _ => ?_) (fun _ => ?_) | refine CT.skip ?_ | refine CT.exit ?_ | refine CT.ret ?_ | refine CT.goto ?_ | refine CT.label ?_ | refine LT.nil ?_ | refine HT.nil1 ?_ | (refine LT.consT ?_; (first | refine T.alloc (e := 102) (z := .agg #[.int .i64 0, .int .i64 0, .int .i64 0]) (cs := [.val (.int .i64 0), .val (.int .i64 0), .val (.int .i64 0)]) (by kernel_rfl) rfl (by decide) rfl rfl ?_ | refine T.alloc (e := 74) (z := .agg #[.int .i64 0, .int .u64 0, .int .u64 0, .int .u64 0, .int .u64 0, .int .i64 0, .int .i64 0]) (cs := [.val (.int .i64 0), .val (.int .u64 0), .val (.int .u64 0), .val (.int .u64 0), .val (.int .u64 0), .val (.int .i64 0), .val (.int .i64 0)]) (by kernel_rfl) rfl (by decide) rfl rfl ?_ | refine T.store (t := 74) rfl rfl rfl (by kernel_rfl) (by kernel_rfl) (Nat.le_of_ble_eq_true (by kernel_rfl)) rfl rfl ?_ | refine T.store (t := 3) rfl rfl rfl (by kernel_rfl) (by kernel_rfl) (Nat.le_of_ble_eq_true (by kernel_rfl)) rfl rfl ?_ | refine T.store (t := 102) rfl rfl rfl (by kernel_rfl) (by kernel_rfl) (Nat.le_of_ble_eq_true (by kernel_rfl)) rfl rfl ?_)) | ((first | apply LT.cons1 | (apply LT.guard1; rfl; rfl; rfl; decide)); (first | exact arm57_1); decide) | refine LT.skip1 rfl rfl rfl (by decide) (by decide) ?_ | refine LT.skip2 rfl rfl (by decide) (by decide) ?_ | refine LT.partD rfl rfl (fun _ => ?_) (fun _ => ?_) | refine LT.partN rfl rfl (fun _ => ?_) (fun _ => ?_) | (refine LT.part1 rfl rfl (fun h => ?_) (fun h => ?_); (fail_if_success exact absurd h (by decide)); rotate_left; (fail_if_success exact absurd h (by decide)); rotate_left))
            refine ⟨k + 1, by omega, by omega, ?_⟩
            rw [hc0, hc1, hc2]
            (apply Sub.mk; (focus (repeat (first | exact .nil | refine .other (.keep rfl rfl) ?_ | refine .other (.aref rfl rfl rfl) ?_ | refine .other (.val rfl (by first | rfl | (congr 1; first | omega | assumption | (symm; assumption)) | (simp; omega))) ?_ | refine .other .dead ?_ | refine .other (.sl rfl (.row _ _ _ _) rfl) ?_ | refine .other (.sl rfl (.sl _ _) rfl) ?_ | refine .other (.sl rfl (.full _ _) rfl) ?_ | refine .other (.slNil rfl rfl) ?_ | refine .rowNil rfl rfl rfl ?_ | refine .row rfl (by first | rfl | assumption | (rw [← List.map_append]; first | done | rfl | congr 1)) rfl rfl ?_))); (focus (repeat (first | exact .nil | refine KeepB.same rfl rfl rfl ?_ | refine KeepB.sameA rfl rfl rfl ?_))); (focus (repeat (first | exact .nil | refine KeepA.cons rfl (by first | rfl | assumption | exact List.map_set | exact List.map_set.symm | (rw [← List.map_append]; first | done | rfl | congr 1) | (congr 1; first | omega | assumption)) ?_))))
          · repeat' (first | refine CT.seqR ?_ | refine CT.region ?_ | refine CT.seq1 ?_ | refine CT.block ?_ | refine CT.condT rfl ?_ | refine CT.condF rfl ?_ | refine CT.condD rfl (fun _ => ?_) (fun _ => ?_) | refine CT.condN rfl (fun _ => ?_) (fun _ => ?_) | refine CT.cond rfl (fun _ => ?_) (fun _ => ?_) | refine CT.skip ?_ | refine CT.exit ?_ | refine CT.ret ?_ | refine CT.goto ?_ | refine CT.label ?_ | refine LT.nil ?_ | refine HT.nil1 ?_ | (refine LT.consT ?_; (first | refine T.alloc (e := 102) (z := .agg #[.int .i64 0, .int .i64 0, .int .i64 0]) (cs := [.val (.int .i64 0), .val (.int .i64 0), .val (.int .i64 0)]) (by kernel_rfl) rfl (by decide) rfl rfl ?_ | refine T.alloc (e := 74) (z := .agg #[.int .i64 0, .int .u64 0, .int .u64 0, .int .u64 0, .int .u64 0, .int .i64 0, .int .i64 0]) (cs := [.val (.int .i64 0), .val (.int .u64 0), .val (.int .u64 0), .val (.int .u64 0), .val (.int .u64 0), .val (.int .i64 0), .val (.int .i64 0)]) (by kernel_rfl) rfl (by decide) rfl rfl ?_ | refine T.store (t := 74) rfl rfl rfl (by kernel_rfl) (by kernel_rfl) (Nat.le_of_ble_eq_true (by kernel_rfl)) rfl rfl ?_ | refine T.store (t := 3) rfl rfl rfl (by kernel_rfl) (by kernel_rfl) (Nat.le_of_ble_eq_true (by kernel_rfl)) rfl rfl ?_ | refine T.store (t := 102) rfl rfl rfl (by kernel_rfl) (by kernel_rfl) (Nat.le_of_ble_eq_true (by kernel_rfl)) rfl rfl ?_)) | ((first | apply LT.cons1 | (apply LT.guard1; rfl; rfl; rfl; decide)); (first | exact arm57_1); decide) | refine LT.skip1 rfl rfl rfl (by decide) (by decide) ?_ | refine LT.skip2 rfl rfl (by decide) (by decide) ?_ | refine LT.partD rfl rfl (fun _ => ?_) (fun _ => ?_) | refine LT.partN rfl rfl (fun _ => ?_) (fun _ => ?_) | (refine LT.part1 rfl rfl (fun h => ?_) (fun h => ?_); (fail_if_success exact absurd h (by decide)); rotate_left; (fail_if_success exact absurd h (by decide)); rotate_left))
            refine ⟨k + 1, by omega, by omega, ?_⟩
            rw [hc0, hc1, hc2]
            (apply Sub.mk; (focus (repeat (first | exact .nil | refine .other (.keep rfl rfl) ?_ | refine .other (.aref rfl rfl rfl) ?_ | refine .other (.val rfl (by first | rfl | (congr 1; first | omega | assumption | (symm; assumption)) | (simp; omega))) ?_ | refine .other .dead ?_ | refine .other (.sl rfl (.row _ _ _ _) rfl) ?_ | refine .other (.sl rfl (.sl _ _) rfl) ?_ | refine .other (.sl rfl (.full _ _) rfl) ?_ | refine .other (.slNil rfl rfl) ?_ | refine .rowNil rfl rfl rfl ?_ | refine .row rfl (by first | rfl | assumption | (rw [← List.map_append]; first | done | rfl | congr 1)) rfl rfl ?_))); (focus (repeat (first | exact .nil | refine KeepB.same rfl rfl rfl ?_ | refine KeepB.sameA rfl rfl rfl ?_))); (focus (repeat (first | exact .nil | refine KeepA.cons rfl (by first | rfl | assumption | exact List.map_set | exact List.map_set.symm | (rw [← List.map_append]; first | done | rfl | congr 1) | (congr 1; first | omega | assumption)) ?_))))
  · obtain rfl : k = l.length := by omega
    rw [List.take_of_length_le (Nat.le_refl _)]
    repeat' (first | refine CT.seqR ?_ | refine CT.region ?_ | refine CT.seq1 ?_ | refine CT.block ?_ | refine CT.condT rfl ?_ | refine CT.condF rfl ?_ | refine CT.condD rfl (fun _ => ?_) (fun _ => ?_) | refine CT.condN rfl (fun _ => ?_) (fun _ => ?_) | refine CT.cond rfl (fun _ => ?_) (fun _ => ?_) | refine CT.skip ?_ | refine CT.exit ?_ | refine CT.ret ?_ | refine CT.goto ?_ | refine CT.label ?_ | refine LT.nil ?_ | refine HT.nil1 ?_ | (refine LT.consT ?_; (first | refine T.alloc (e := 102) (z := .agg #[.int .i64 0, .int .i64 0, .int .i64 0]) (cs := [.val (.int .i64 0), .val (.int .i64 0), .val (.int .i64 0)]) (by kernel_rfl) rfl (by decide) rfl rfl ?_ | refine T.alloc (e := 74) (z := .agg #[.int .i64 0, .int .u64 0, .int .u64 0, .int .u64 0, .int .u64 0, .int .i64 0, .int .i64 0]) (cs := [.val (.int .i64 0), .val (.int .u64 0), .val (.int .u64 0), .val (.int .u64 0), .val (.int .u64 0), .val (.int .i64 0), .val (.int .i64 0)]) (by kernel_rfl) rfl (by decide) rfl rfl ?_ | refine T.store (t := 74) rfl rfl rfl (by kernel_rfl) (by kernel_rfl) (Nat.le_of_ble_eq_true (by kernel_rfl)) rfl rfl ?_ | refine T.store (t := 3) rfl rfl rfl (by kernel_rfl) (by kernel_rfl) (Nat.le_of_ble_eq_true (by kernel_rfl)) rfl rfl ?_ | refine T.store (t := 102) rfl rfl rfl (by kernel_rfl) (by kernel_rfl) (Nat.le_of_ble_eq_true (by kernel_rfl)) rfl rfl ?_)) | ((first | apply LT.cons1 | (apply LT.guard1; rfl; rfl; rfl; decide)); (first | exact arm57_1); decide) | refine LT.skip1 rfl rfl rfl (by decide) (by decide) ?_ | refine LT.skip2 rfl rfl (by decide) (by decide) ?_ | refine LT.partD rfl rfl (fun _ => ?_) (fun _ => ?_) | refine LT.partN rfl rfl (fun _ => ?_) (fun _ => ?_) | (refine LT.part1 rfl rfl (fun h => ?_) (fun h => ?_); (fail_if_success exact absurd h (by decide)); rotate_left; (fail_if_success exact absurd h (by decide)); rotate_left))
    refine ⟨by first | exact .inl rfl | exact .inr rfl, _, (.cons (.many 2 (vs := [_, _, _]) rfl rfl (by kernel_rfl) rfl rfl) .nil), ?_, rfl⟩
    rfl
end Go.Proofs.Ytnklfbeiagkhiaa

/- Steps, in plain Lean. -/
namespace Go.Proofs.Ytnklfbeiagkhiaa
set_option linter.unusedSimpArgs false
set_option linter.unusedVariables false
open Go
/-- No two are alike. -/
def NoAlike (l : List Ent) : Prop := l.Pairwise fun x y => eAlike x y = false
theorem alike_false_comm {x y : Ent} (h : eAlike x y = false) : eAlike y x = false := by rw [alike_comm]; exact h
theorem alike_act {x y : Ent} (h : eAlike x y = true) (ha : x.act = y.act) : x = y := by
  unfold eAlike same at h
  simp only [Bool.and_eq_true, decide_eq_true_eq, beq_iff_eq] at h
  cases x; cases y
  simp only at h ha
  rw [h.1, h.2, ha]
theorem NoAlike.eq {l : List Ent} (h : NoAlike l) {x y : Ent} (hx : x ∈ l) (hy : y ∈ l) (ha : eAlike x y = true) : x = y := by
  refine Classical.byContradiction fun hne => ?_
  have key : ∀ {l : List Ent}, NoAlike l → x ∈ l → y ∈ l → False := by
    intro l
    induction l with
    | nil => intro _ hx; cases hx
    | cons z l ih =>
      intro h hx hy
      have h' := List.pairwise_cons.1 h
      rcases List.mem_cons.1 hx with rfl | hx <;> rcases List.mem_cons.1 hy with rfl | hy
      · exact hne rfl
      · rw [h'.1 y hy] at ha; cases ha
      · rename_i hx2
        rw [alike_comm, h'.1 x hx2] at ha; cases ha
      · exact ih h'.2 hx hy
  exact key h hx hy
theorem NoAlike.nodup {l : List Ent} (h : NoAlike l) : l.Nodup := h.imp fun hxy e => by
  subst e; rw [alike_refl] at hxy; cases hxy
theorem NoAlike.perm {l l' : List Ent} (h : NoAlike l) (hp : l'.Perm l) : NoAlike l' := (hp.pairwise_iff fun hxy => alike_false_comm hxy).2 h
theorem NoAlike.snoc {l : List Ent} (h : NoAlike l) {x : Ent} (hx : ∀ y ∈ l, eAlike y x = false) : NoAlike (l ++ [x]) := by
  refine List.pairwise_append.2 ⟨h, List.pairwise_singleton _ _, fun y hy z hz => ?_⟩
  rw [List.mem_singleton.1 hz]; exact hx y hy
theorem once_noAlike (xs : List Ent) : NoAlike (once xs) := by
  have key : ∀ k, k ≤ xs.length → NoAlike (onceTo xs k) := by
    intro k
    induction k with
    | zero => intro _; exact List.Pairwise.nil
    | succ k ih =>
      intro hk
      have hlt : k < xs.length := hk
      by_cases hf : firstAt (fun y => eAlike xs[k] y) (onceTo xs k) < 0
      · rw [onceTo_add hlt hf]
        exact (ih (by omega)).snoc fun y hy => alike_false_comm ((firstAt_neg _ _).1 hf y hy)
      · rw [onceTo_keep hlt hf]; exact ih (by omega)
  exact key _ (Nat.le_refl _)
theorem once_sub {xs : List Ent} {y : Ent} (h : y ∈ once xs) : y ∈ xs := by
  have := (onceTo_take xs xs.length (Nat.le_refl _)).1 y h
  rwa [List.take_of_length_le (Nat.le_refl _)] at this
theorem once_self {xs : List Ent} (h : NoAlike xs) : once xs = xs := by
  have key : ∀ k, k ≤ xs.length → onceTo xs k = xs.take k := by
    intro k
    induction k with
    | zero => intro _; simp [onceTo]
    | succ k ih =>
      intro hk
      have hlt : k < xs.length := hk
      have e := ih (by omega)
      rw [onceTo_add hlt, e, ← List.take_succ_eq_append_getElem hlt]
      rw [firstAt_neg, e]
      intro y hy
      have h1 := List.pairwise_append.1 (show (xs.take k ++ xs.drop k).Pairwise _ by rw [List.take_append_drop]; exact h)
      have h2 : xs[k] ∈ xs.drop k := by
        rw [List.drop_eq_getElem_cons hlt]; exact List.mem_cons_self
      exact alike_false_comm (h1.2.2 y hy _ h2)
  have := key _ (Nat.le_refl _)
  unfold once
  rw [this, List.take_of_length_le (Nat.le_refl _)]
/-! ### The steps that there are -/
theorem addStep_none {a : List Ent} {x : Ent} (h : ∀ y ∈ a, eAlike x y = false) : addStep a x = [⟨0, x⟩] := by
  unfold addStep; rw [if_pos ((firstAt_neg _ _).2 h)]
theorem addStep_some {a : List Ent} {x y : Ent} (hn : NoAlike a) (hy : y ∈ a) (h : eAlike x y = true) : addStep a x = if y.act = x.act then [] else [⟨1, x⟩] := by
  have hf : ¬ firstAt (fun y => eAlike x y) a < 0 := fun hc => by rw [(firstAt_neg _ _).1 hc y hy] at h; cases h
  have hge := firstAt_ge (fun y => eAlike x y) a
  obtain ⟨i, hi⟩ : ∃ i : Nat, firstAt (fun y => eAlike x y) a = (i : Int) := ⟨(firstAt (fun y => eAlike x y) a).toNat, by omega⟩
  obtain ⟨hil, h1, _⟩ := firstAt_found hi
  have e : a[i] = y := hn.eq (List.getElem_mem hil) hy (alike_trans (by rw [alike_comm]; exact h1) h)
  unfold addStep
  rw [if_neg hf, hi, Int.toNat_natCast, nth_at a hil, e]
theorem dropStep_none {b : List Ent} {x : Ent} (h : ∀ y ∈ b, eAlike x y = false) : dropStep b x = [⟨2, x⟩] := by
  unfold dropStep; rw [if_pos ((firstAt_neg _ _).2 h)]
theorem dropStep_some {b : List Ent} {x y : Ent} (hy : y ∈ b) (h : eAlike x y = true) : dropStep b x = [] := by
  unfold dropStep; rw [if_neg fun hc => by rw [(firstAt_neg _ _).1 hc y hy] at h; cases h]
theorem alike_cases (a : List Ent) (x : Ent) : (∀ y ∈ a, eAlike x y = false) ∨ ∃ y ∈ a, eAlike x y = true := by
  by_cases h : ∃ y ∈ a, eAlike x y = true
  · exact .inr h
  · exact .inl fun y hy => by
      cases hq : eAlike x y with
      | false => rfl
      | true => exact absurd ⟨y, hy, hq⟩ h
theorem steps_length (old new : List Ent) : (stepsOf old new).length ≤ new.length + old.length := by
  unfold stepsOf
  have h1 := flat_le _ (addStep_length (once old)) (sortE (once new))
  have h2 := flat_le _ (dropStep_length (once new)) (sortE (once old)).reverse
  have := sortE_length (once new)
  have := sortE_length (once old)
  have := once_length new
  have := once_length old
  rw [List.length_append]
  simp only [List.length_reverse] at h2
  omega
/-! ### A row behind a step -/
def doSteps (ss : List Stp) (l : List Ent) : List Ent := ss.foldl (fun l s => doStep s l) l
theorem doSteps_append (s t : List Stp) (l : List Ent) : doSteps (s ++ t) l = doSteps t (doSteps s l) := List.foldl_append
theorem do_add (x : Ent) (l : List Ent) : doStep ⟨0, x⟩ l = l ++ [x] := by
  unfold doStep; rw [if_pos rfl, do_keepAll (by simp) (by simp)]
theorem do_set (x : Ent) (l : List Ent) : doStep ⟨1, x⟩ l = l.map fun y => if eAlike y x = true then x else y := by
  unfold doStep
  rw [if_neg (by simp), List.append_nil]
  induction l with
  | nil => rfl
  | cons y l ih =>
    rw [List.flatMap_cons, ih, List.map_cons]
    cases ha : eAlike y x with
    | true => rw [doOne_set rfl ha]; rfl
    | false => rw [doOne_keep (by simp [ha]) (by simp [ha])]; rfl
theorem do_del (x : Ent) (l : List Ent) : doStep ⟨2, x⟩ l = l.filter fun y => !eAlike y x := do_drop rfl l
/-- Behind the first of the new ones. -/
structure Adds (a p l : List Ent) : Prop where
  no : NoAlike l
  mem : ∀ e, e ∈ l ↔ e ∈ p ∨ (e ∈ a ∧ ∀ x ∈ p, eAlike e x = false)
theorem Adds.start {a : List Ent} (h : NoAlike a) : Adds a [] a := ⟨h, fun e => by simp⟩
theorem Adds.step {a p l : List Ent} (h : Adds a p l) (ha : NoAlike a) {x : Ent} (hx : ∀ z ∈ p, eAlike z x = false) : Adds a (p ++ [x]) (doSteps (addStep a x) l) := by
  rcases alike_cases a x with hc | ⟨y, hy, hc⟩
  · rw [addStep_none hc]
    show Adds a (p ++ [x]) (doStep ⟨0, x⟩ l)
    rw [do_add]
    refine ⟨h.no.snoc fun z hz => ?_, fun e => ?_⟩
    · rcases (h.mem z).1 hz with hz | ⟨hz, _⟩
      · exact hx z hz
      · exact alike_false_comm (hc z hz)
    · simp only [List.mem_append, List.mem_singleton, h.mem]
      constructor
      · rintro ((h1 | ⟨h1, h2⟩) | rfl)
        · exact .inl (.inl h1)
        · exact .inr ⟨h1, fun z hz => by
            rcases hz with hz | rfl
            · exact h2 z hz
            · exact alike_false_comm (hc e h1)⟩
        · exact .inl (.inr rfl)
      · rintro ((h1 | rfl) | ⟨h1, h2⟩)
        · exact .inl (.inl h1)
        · exact .inr rfl
        · exact .inl (.inr ⟨h1, fun z hz => h2 z (.inl hz)⟩)
  · have hyl : y ∈ l := (h.mem y).2 (.inr ⟨hy, fun z hz => by
      cases hq : eAlike y z with
      | false => rfl
      | true => have := alike_trans hc hq; rw [alike_comm, hx z hz] at this; cases this⟩)
    rw [addStep_some ha hy hc]
    split
    · rename_i hact
      have e1 : y = x := alike_act (by rw [alike_comm]; exact hc) hact
      subst e1
      refine ⟨h.no, fun e => ?_⟩
      show e ∈ l ↔ _
      rw [h.mem]
      simp only [List.mem_append, List.mem_singleton]
      constructor
      · rintro (h1 | ⟨h1, h2⟩)
        · exact .inl (.inl h1)
        · cases hq : eAlike e y with
          | true => exact .inl (.inr (ha.eq h1 hy hq))
          | false => exact .inr ⟨h1, fun z hz => by
              rcases hz with hz | rfl
              · exact h2 z hz
              · exact hq⟩
      · rintro ((h1 | rfl) | ⟨h1, h2⟩)
        · exact .inl h1
        · exact (h.mem _).1 hyl
        · exact .inr ⟨h1, fun z hz => h2 z (.inl hz)⟩
    · show Adds a (p ++ [x]) (doStep ⟨1, x⟩ l)
      rw [do_set]
      have hno : NoAlike (l.map fun y => if eAlike y x = true then x else y) := by
        refine List.pairwise_map.2 (h.no.imp fun {u v} huv => ?_)
        cases hu : eAlike u x with
        | true =>
          cases hv : eAlike v x with
          | true => rw [alike_trans hu (by rw [alike_comm]; exact hv)] at huv; cases huv
          | false => simp only [if_true, Bool.false_eq_true, if_false]; exact alike_false_comm hv
        | false =>
          cases hv : eAlike v x with
          | true => simpa using hu
          | false => simpa using huv
      refine ⟨hno, fun e => ?_⟩
      simp only [List.mem_append, List.mem_singleton, List.mem_map]
      constructor
      · rintro ⟨u, hu, rfl⟩
        split
        · exact .inl (.inr rfl)
        · rename_i hux
          have hux : eAlike u x = false := by simpa using hux
          rcases (h.mem u).1 hu with h1 | ⟨h1, h2⟩
          · exact .inl (.inl h1)
          · exact .inr ⟨h1, fun z hz => by
              rcases hz with hz | rfl
              · exact h2 z hz
              · exact hux⟩
      · rintro ((h1 | rfl) | ⟨h1, h2⟩)
        · exact ⟨e, (h.mem e).2 (.inl h1), by rw [if_neg (by rw [hx e h1]; simp)]⟩
        · exact ⟨y, hyl, by rw [if_pos (by rw [alike_comm]; exact hc)]⟩
        · exact ⟨e, (h.mem e).2 (.inr ⟨h1, fun z hz => h2 z (.inl hz)⟩), by rw [if_neg (by rw [h2 x (.inr rfl)]; simp)]⟩
/-- Behind the first of those that go. -/
structure Drops (a b q l : List Ent) : Prop where
  no : NoAlike l
  mem : ∀ e, e ∈ l ↔ e ∈ b ∨ (e ∈ a ∧ (∀ x ∈ b, eAlike e x = false) ∧ e ∉ q)
theorem Drops.start {a b b' l : List Ent} (h : Adds a b' l) (hp : b'.Perm b) : Drops a b [] l := ⟨h.no, fun e => by
  rw [h.mem, hp.mem_iff]
  simp only [List.not_mem_nil, not_false_eq_true, and_true]
  constructor <;> rintro (h1 | ⟨h1, h2⟩)
  · exact .inl h1
  · exact .inr ⟨h1, fun x hx => h2 x (hp.mem_iff.2 hx)⟩
  · exact .inl h1
  · exact .inr ⟨h1, fun x hx => h2 x (hp.mem_iff.1 hx)⟩⟩
theorem Drops.step {a b q l : List Ent} (h : Drops a b q l) (ha : NoAlike a) {x : Ent} (hx : x ∈ a) : Drops a b (q ++ [x]) (doSteps (dropStep b x) l) := by
  rcases alike_cases b x with hc | ⟨y, hy, hc⟩
  · rw [dropStep_none hc]
    show Drops a b (q ++ [x]) (doStep ⟨2, x⟩ l)
    rw [do_del]
    refine ⟨h.no.filter _, fun e => ?_⟩
    simp only [List.mem_filter, List.mem_append, List.mem_singleton, h.mem, Bool.not_eq_true', not_or]
    constructor
    · rintro ⟨h1 | ⟨h1, h2, h3⟩, h4⟩
      · exact .inl h1
      · exact .inr ⟨h1, h2, h3, fun e1 => by subst e1; rw [alike_refl] at h4; cases h4⟩
    · rintro (h1 | ⟨h1, h2, h3, h4⟩)
      · exact ⟨.inl h1, alike_false_comm (hc e h1)⟩
      · refine ⟨.inr ⟨h1, h2, h3⟩, ?_⟩
        cases hq : eAlike e x with
        | false => rfl
        | true => exact absurd (ha.eq h1 hx hq) h4
  · rw [dropStep_some hy hc]
    refine ⟨h.no, fun e => ?_⟩
    show e ∈ l ↔ _
    rw [h.mem]
    simp only [List.mem_append, List.mem_singleton, not_or]
    constructor
    · rintro (h1 | ⟨h1, h2, h3⟩)
      · exact .inl h1
      · exact .inr ⟨h1, h2, h3, fun e1 => by subst e1; rw [h2 y hy] at hc; cases hc⟩
    · rintro (h1 | ⟨h1, h2, h3, _⟩)
      · exact .inl h1
      · exact .inr ⟨h1, h2, h3⟩
theorem adds_all {a sb : List Ent} (ha : NoAlike a) (hb : NoAlike sb) : ∀ k, k ≤ sb.length → Adds a (sb.take k) (doSteps ((sb.take k).flatMap (addStep a)) a)
  | 0, _ => by simpa [doSteps] using Adds.start ha
  | k + 1, hk => by
    have hlt : k < sb.length := hk
    rw [flat_succ hlt, doSteps_append, List.take_succ_eq_append_getElem hlt]
    refine (adds_all ha hb k (by omega)).step ha fun z hz => ?_
    have h1 := List.pairwise_append.1 (show (sb.take k ++ sb.drop k).Pairwise _ by rw [List.take_append_drop]; exact hb)
    exact h1.2.2 z hz _ (by rw [List.drop_eq_getElem_cons hlt]; exact List.mem_cons_self)
theorem drops_all {a b sb l sa : List Ent} (ha : NoAlike a) (h : Adds a sb l) (hp : sb.Perm b) (hs : ∀ x ∈ sa, x ∈ a) : ∀ k, k ≤ sa.length → Drops a b (sa.take k) (doSteps ((sa.take k).flatMap (dropStep b)) l)
  | 0, _ => by simpa [doSteps] using Drops.start h hp
  | k + 1, hk => by
    have hlt : k < sa.length := hk
    rw [flat_succ hlt, doSteps_append, List.take_succ_eq_append_getElem hlt]
    exact (drops_all ha h hp hs k (by omega)).step ha (hs _ (List.getElem_mem hlt))
theorem steps_perm (old new : List Ent) : (doSteps (stepsOf old new) (once old)).Perm (once new) := by
  unfold stepsOf
  rw [doSteps_append]
  have ha := once_noAlike old
  have hb := once_noAlike new
  have h1 := adds_all ha (hb.perm (sortE_perm _)) (sortE (once new)).length (Nat.le_refl _)
  rw [List.take_of_length_le (Nat.le_refl _)] at h1
  have h2 := drops_all ha h1 (sortE_perm _) (sa := (sortE (once old)).reverse) (fun x hx => (sortE_perm _).mem_iff.1 (List.mem_reverse.1 hx)) _ (Nat.le_refl _)
  rw [List.take_of_length_le (Nat.le_refl _)] at h2
  refine (List.perm_ext_iff_of_nodup h2.no.nodup hb.nodup).2 fun e => ?_
  rw [h2.mem]
  constructor
  · rintro (h | ⟨h, _, h3⟩)
    · exact h
    · exact absurd (List.mem_reverse.2 ((sortE_perm _).mem_iff.2 h)) h3
  · exact .inl
end Go.Proofs.Ytnklfbeiagkhiaa
