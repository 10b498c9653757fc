/- ref06.Best. -/
import Derived.Test.YtkfmammkbmhfaaaXPfxW
import Derived.Test.YtkfmammkbmhfaaaXLen
import Derived.Test.YtkfmammkbmhfaaaXTriF
namespace Go.Proofs.Ytkfmammkbmhfaaa
set_option linter.unusedSimpArgs false
set_option linter.unusedVariables false
open Go Go.RowKit Go.Shelf
def zeroR : Rte := ⟨⟨⟨0, 0⟩, 0⟩, 0⟩
def rteO (o : Option Rte) : Rte := match o with | some r => r | none => zeroR
theorem bestAt_hit {l : List Rte} {a : A2} {n : Int} {i : Nat} (hi : i < l.length) (hno : ∀ (j : Nat) (hj : j < l.length), j < i → ¬ (l[j].p.len = n ∧ rpMatch l[j].p a = true)) (h1 : l[i].p.len = n) (h2 : rpMatch l[i].p a = true) : bestAtO l a n = some l[i] := by
  unfold bestAtO
  rw [List.find?_eq_some_iff_append]
  refine ⟨by rw [decide_eq_true h1, h2]; rfl, l.take i, l.drop (i + 1), by rw [← List.drop_eq_getElem_cons hi, List.take_append_drop], fun x hx => ?_⟩
  obtain ⟨j, hj, rfl⟩ := List.mem_iff_getElem.1 hx
  rw [List.length_take] at hj
  rw [List.getElem_take]
  have := hno j (by omega) (by omega)
  rw [Bool.not_eq_true', Bool.eq_false_iff]
  rw [ne_eq, Bool.and_eq_true, decide_eq_true_eq]
  exact this
theorem bestAt_no {l : List Rte} {a : A2} {n : Int} (hno : ∀ (j : Nat) (hj : j < l.length), j < l.length → ¬ (l[j].p.len = n ∧ rpMatch l[j].p a = true)) : bestAtO l a n = none := bestAt_none.2 fun r hr e => by
  obtain ⟨j, hj, rfl⟩ := List.mem_iff_getElem.1 hr
  cases hq : rpMatch l[j].p a with
  | false => rfl
  | true => exact absurd ⟨e, hq⟩ (hno j hj hj)
attribute [local irreducible] OpH OpT LT CT HT Good
theorem arm18_1 {p : Prop} (h : p := by first | exact OpH.assign (v := .val _) rfl | exact OpH.assign (v := .sl _ _) rfl | exact OpH.assign (v := .row _ _ _ _) rfl | exact OpH.assign (v := .full _ _) rfl | exact OpH.assign (v := .ptr _ _) rfl | exact OpH.assign (v := .cptr _) rfl | exact OpH.assign (v := .cloB _ _) rfl | exact OpH.assign (v := .clo _ _) rfl | exact OpH.assign (v := .pr _) rfl | exact OpH.assign (v := .arow _) rfl | exact OpH.assign (v := .aptr _ _ _ _) rfl | exact OpH.assign (v := .asub _ _ _ _) rfl | exact OpH.assign (v := .tup _) rfl | exact OpH.move (v := .val _) rfl | exact OpH.move (v := .sl _ _) rfl | exact OpH.move (v := .row _ _ _ _) rfl | exact OpH.move (v := .full _ _) rfl | exact OpH.move (v := .ptr _ _) rfl | exact OpH.move (v := .cptr _) rfl | exact OpH.move (v := .cloB _ _) rfl | exact OpH.move (v := .clo _ _) rfl | exact OpH.move (v := .pr _) rfl | exact OpH.move (v := .arow _) rfl | exact OpH.move (v := .aptr _ _ _ _) rfl | exact OpH.move (v := .asub _ _ _ _) rfl | exact OpH.move (v := .tup _) rfl | exact OpH.bin rfl rfl (pb_geq_t (by omega)) | exact OpH.bin rfl rfl (pb_geq_f (by omega)) | exact OpH.bin rfl rfl (pb_geq) | exact OpH.lenM (t := 43) rfl (.sl _ _) (by kernel_rfl) | exact OpH.lenM (t := 43) rfl (.row _ _ _ _) (by kernel_rfl) | exact OpH.lenM (t := 43) rfl (.full _ _) (by kernel_rfl) | exact OpH.len (t := 43) rfl slP (by kernel_rfl) | exact OpH.lenNil (t := 43) rfl (by kernel_rfl) | exact OpH.bin rfl rfl (pb_lss_t (by omega)) | exact OpH.bin rfl rfl (pb_lss_f (by omega)) | exact OpH.bin rfl rfl (pb_lss) | exact OpH.indexS (t := 43) (k := 4) rfl slP rfl rfl (by kernel_rfl) (map_at bd) rfl | exact OpH.fieldC (s := 50) (f := 0) (off := 0) rfl (by kernel_rfl) rfl | exact OpH.fieldB (s := 50) (f := 0) (off := 0) rfl (by kernel_rfl) rfl | exact OpH.fieldC (s := 48) (f := 1) (off := 2) rfl (by kernel_rfl) rfl | exact OpH.fieldB (s := 48) (f := 1) (off := 2) rfl (by kernel_rfl) rfl | exact OpH.loadC1 (t := 3) rfl (by kernel_rfl) rfl | exact OpH.loadB1 (t := 3) rfl rfl (by kernel_rfl) rfl | exact OpH.bin rfl rfl (pb_eql_t (by first | omega | assumption)) | exact OpH.bin rfl rfl (pb_eql_f (by first | omega | assumption)) | exact OpH.bin rfl rfl (pb_eql) | exact loadC3 (t := 48) rfl (by kernel_rfl) | exact loadB3 (t := 48) rfl rfl (by kernel_rfl) rfl | exact loadC2 (t := 30) rfl (by kernel_rfl) | exact loadB2 (t := 30) rfl rfl (by kernel_rfl) rfl | exact OpH.pick (b := true) (v := .val _) rfl rfl | exact OpH.pick (b := false) (v := .val _) rfl rfl | exact OpH.pick (b := true) (v := .sl _ _) rfl rfl | exact OpH.pick (b := false) (v := .sl _ _) rfl rfl | exact OpH.pick (b := true) (v := .row _ _ _ _) rfl rfl | exact OpH.pick (b := false) (v := .row _ _ _ _) rfl rfl | exact OpH.pick (b := true) (v := .full _ _) rfl rfl | exact OpH.pick (b := false) (v := .full _ _) rfl rfl | exact OpH.pickV rfl rfl rfl | exact loadC4 (t := 50) rfl (by kernel_rfl) | exact loadB4 (t := 50) rfl rfl (by kernel_rfl) rfl | exact OpH.bin rfl rfl (pb_inc (by omega)) | exact OpH.bin rfl rfl (pb_addN rfl (by omega)) | exact OpH.bin rfl rfl (pb_add (by omega)) | exact OpH.bin rfl rfl (pb_addw) | exact OpH.bin rfl rfl (pb_sub (by omega)) | exact OpH.bin rfl rfl (pb_subw) | exact build_50_  | exact OpH.build (t := 50) (cells := #[_, _, _, _]) (by kernel_rfl) rfl) : p := h
set_option maxRecDepth 100000 in
set_option maxHeartbeats 2000000 in
theorem g_r6Best (l : List Rte) (a : A2) (hok : ∀ x ∈ l, x.p.a.ok) (ha : a.ok) (hl : l.length ≤ 65536) : Good Try.prog 18 [.sl 4 (l.map encR), .val (.agg #[.int .u64 a.x, .int .u64 a.y])] (.tup [.val (.agg #[.int .u64 (rteO (bestO l a)).p.a.x, .int .u64 (rteO (bestO l a)).p.a.y, .int .i64 (rteO (bestO l a)).p.len, .int .i64 (rteO (bestO l a)).act]), .val (.bool (bestO l a).isSome)]) := by
  refine Good.of_body (T := [(0, _), (1, _)]) Try.func18 rfl rfl rfl ?_
  intro K0 w0 hno
  repeat' (first | refine CT.seqR ?_ | refine CT.seqD (id := 7) 16 (by kernel_rfl) (by kernel_rfl) ?_ | refine CT.draw (id := 7) 16 (by kernel_rfl) (by kernel_rfl) ?_ | refine CT.region ?_ | refine CT.seq1 ?_ | refine CT.block ?_ | refine CT.condT rfl ?_ | refine CT.condF rfl ?_ | refine CT.condD rfl (fun _ => ?_) (fun _ => ?_) | refine CT.condN rfl (fun _ => ?_) (fun _ => ?_) | refine CT.cond rfl (fun _ => ?_) (fun _ => ?_) | refine CT.skip ?_ | refine CT.exit ?_ | refine CT.ret ?_ | refine LT.nil ?_ | refine HT.nil1 ?_ | (refine LT.consT ?_; (first | refine T.box (e := 30) (cs := [.val _, .val _]) rfl rfl (by decide) rfl rfl ?_ | refine T.alloc (e := 50) (z := .agg #[.int .u64 0, .int .u64 0, .int .i64 0, .int .i64 0]) (cs := [.val (.int .u64 0), .val (.int .u64 0), .val (.int .i64 0), .val (.int .i64 0)]) (by kernel_rfl) rfl (by decide) rfl rfl ?_ | refine T.store (t := 50) rfl rfl rfl (by kernel_rfl) (by kernel_rfl) (Nat.le_of_ble_eq_true (by kernel_rfl)) rfl rfl ?_)) | ((first | apply LT.cons1 | (apply LT.guard1; rfl; rfl; rfl; decide) | apply HT.cons1 | (apply HT.guard1; rfl; rfl; rfl)); (first | exact arm18_1); (try decide)) | refine LT.skip1 rfl rfl rfl (by decide) (by decide) ?_ | refine LT.skip2 rfl rfl (by decide) (by decide) ?_ | refine LT.partD rfl rfl (fun _ => ?_) (fun _ => ?_) | refine LT.partN rfl rfl (fun _ => ?_) (fun _ => ?_) | refine HT.skip1 rfl rfl rfl ?_ | refine HT.skip2 rfl rfl ?_ | refine HT.partD rfl rfl (fun _ => ?_) (fun _ => ?_) | refine HT.partN rfl rfl (fun _ => ?_) (fun _ => ?_) | ((first | refine LT.part1 rfl rfl (fun h => ?_) (fun h => ?_) | refine HT.part1 rfl rfl (fun h => ?_) (fun h => ?_)); (fail_if_success exact absurd h (by decide)); rotate_left; (fail_if_success exact absurd h (by decide)); rotate_left))
  refine CT.loopX (fun n : Int => (⟨[(0, .sl 4 (l.map encR)), (3, .ptr 3 0), (4, .ptr 4 0), (6, .val (.int .i64 n))], [(3, [.val (.int .u64 a.x), .val (.int .u64 a.y)]), (4, [.val (.int .u64 0), .val (.int .u64 0), .val (.int .i64 0), .val (.int .i64 0)])], []⟩ : St))
    (fun n => -1 ≤ n ∧ n ≤ 128 ∧ ∀ k : Nat, n < k → k ≤ 128 → bestAtO l a k = none) (fun n => (n + 1).toNat) 128 ?_ ⟨by omega, by omega, fun k h1 h2 => by omega⟩ ?_
  · (apply Sub.mk; (focus (repeat (first | exact .nil | refine .other (.keep rfl rfl) ?_ | refine .other (.aref rfl rfl rfl) ?_ | refine .other (.val rfl (by first | rfl | (congr 1; first | omega | assumption | (symm; assumption)) | (simp; omega))) ?_ | refine .other .dead ?_ | refine .other (.sl rfl (.row _ _ _ _) rfl) ?_ | refine .other (.sl rfl (.sl _ _) rfl) ?_ | refine .other (.sl rfl (.full _ _) rfl) ?_ | refine .other (.slNil rfl rfl) ?_ | refine .rowNil rfl rfl rfl ?_ | refine .row rfl (by first | rfl | assumption | (rw [← List.map_append]; first | done | rfl | congr 1)) rfl rfl ?_))); (focus (repeat (first | exact .nil | refine KeepB.same rfl rfl rfl ?_ | refine KeepB.sameA rfl rfl rfl ?_))); (focus (repeat (first | exact .nil | refine KeepA.cons rfl (by first | rfl | assumption | exact List.map_set | exact List.map_set.symm | (rw [← List.map_append]; first | done | rfl | congr 1) | (congr 1; first | omega | assumption)) ?_))))
  rintro n ⟨hn0, hn1, hn⟩
  by_cases hge : 0 ≤ n
  · repeat' (first | refine CT.seqR ?_ | refine CT.seqD (id := 7) 16 (by kernel_rfl) (by kernel_rfl) ?_ | refine CT.draw (id := 7) 16 (by kernel_rfl) (by kernel_rfl) ?_ | refine CT.region ?_ | refine CT.seq1 ?_ | refine CT.block ?_ | refine CT.condT rfl ?_ | refine CT.condF rfl ?_ | refine CT.condD rfl (fun _ => ?_) (fun _ => ?_) | refine CT.condN rfl (fun _ => ?_) (fun _ => ?_) | refine CT.cond rfl (fun _ => ?_) (fun _ => ?_) | refine CT.skip ?_ | refine CT.exit ?_ | refine CT.ret ?_ | refine LT.nil ?_ | refine HT.nil1 ?_ | (refine LT.consT ?_; (first | refine T.box (e := 30) (cs := [.val _, .val _]) rfl rfl (by decide) rfl rfl ?_ | refine T.alloc (e := 50) (z := .agg #[.int .u64 0, .int .u64 0, .int .i64 0, .int .i64 0]) (cs := [.val (.int .u64 0), .val (.int .u64 0), .val (.int .i64 0), .val (.int .i64 0)]) (by kernel_rfl) rfl (by decide) rfl rfl ?_ | refine T.store (t := 50) rfl rfl rfl (by kernel_rfl) (by kernel_rfl) (Nat.le_of_ble_eq_true (by kernel_rfl)) rfl rfl ?_)) | ((first | apply LT.cons1 | (apply LT.guard1; rfl; rfl; rfl; decide) | apply HT.cons1 | (apply HT.guard1; rfl; rfl; rfl)); (first | exact arm18_1); (try decide)) | refine LT.skip1 rfl rfl rfl (by decide) (by decide) ?_ | refine LT.skip2 rfl rfl (by decide) (by decide) ?_ | refine LT.partD rfl rfl (fun _ => ?_) (fun _ => ?_) | refine LT.partN rfl rfl (fun _ => ?_) (fun _ => ?_) | refine HT.skip1 rfl rfl rfl ?_ | refine HT.skip2 rfl rfl ?_ | refine HT.partD rfl rfl (fun _ => ?_) (fun _ => ?_) | refine HT.partN rfl rfl (fun _ => ?_) (fun _ => ?_) | ((first | refine LT.part1 rfl rfl (fun h => ?_) (fun h => ?_) | refine HT.part1 rfl rfl (fun h => ?_) (fun h => ?_)); (fail_if_success exact absurd h (by decide)); rotate_left; (fail_if_success exact absurd h (by decide)); rotate_left))
    refine CT.loopX (fun i : Nat => (⟨[(0, .sl 4 (l.map encR)), (3, .ptr 3 0), (4, .ptr 4 0), (6, .val (.int .i64 n)), (7, .val (.int .i64 i))], [(3, [.val (.int .u64 a.x), .val (.int .u64 a.y)]), (4, [.val (.int .u64 0), .val (.int .u64 0), .val (.int .i64 0), .val (.int .i64 0)])], []⟩ : St))
      (fun i => i ≤ l.length ∧ ∀ (j : Nat) (hj : j < l.length), j < i → ¬ (l[j].p.len = n ∧ rpMatch l[j].p a = true)) (fun i => l.length - i) 0 ?_ ⟨by omega, fun j hj h => by omega⟩ ?_
    · (apply Sub.mk; (focus (repeat (first | exact .nil | refine .other (.keep rfl rfl) ?_ | refine .other (.aref rfl rfl rfl) ?_ | refine .other (.val rfl (by first | rfl | (congr 1; first | omega | assumption | (symm; assumption)) | (simp; omega))) ?_ | refine .other .dead ?_ | refine .other (.sl rfl (.row _ _ _ _) rfl) ?_ | refine .other (.sl rfl (.sl _ _) rfl) ?_ | refine .other (.sl rfl (.full _ _) rfl) ?_ | refine .other (.slNil rfl rfl) ?_ | refine .rowNil rfl rfl rfl ?_ | refine .row rfl (by first | rfl | assumption | (rw [← List.map_append]; first | done | rfl | congr 1)) rfl rfl ?_))); (focus (repeat (first | exact .nil | refine KeepB.same rfl rfl rfl ?_ | refine KeepB.sameA rfl rfl rfl ?_))); (focus (repeat (first | exact .nil | refine KeepA.cons rfl (by first | rfl | assumption | exact List.map_set | exact List.map_set.symm | (rw [← List.map_append]; first | done | rfl | congr 1) | (congr 1; first | omega | assumption)) ?_))))
    rintro i ⟨hi, hc⟩
    by_cases hlt : i < l.length
    · have gM := g_r2Match l[i].p a (hok _ (List.getElem_mem hlt)) ha
      by_cases hle : l[i].p.len = n
      · cases hm : rpMatch l[i].p a with
        | true =>
          rw [hm] at gM
          have hb : bestO l a = some l[i] := best_hit' (n := n.toNat) (by omega) (fun k h1 h2 => hn k (by omega) h2) (by rw [Int.toNat_of_nonneg hge]; exact bestAt_hit hlt hc hle hm)
          repeat' (first | refine CT.seqR ?_ | refine CT.seqD (id := 7) 16 (by kernel_rfl) (by kernel_rfl) ?_ | refine CT.draw (id := 7) 16 (by kernel_rfl) (by kernel_rfl) ?_ | refine CT.region ?_ | refine CT.seq1 ?_ | refine CT.block ?_ | refine CT.condT rfl ?_ | refine CT.condF rfl ?_ | refine CT.condD rfl (fun _ => ?_) (fun _ => ?_) | refine CT.condN rfl (fun _ => ?_) (fun _ => ?_) | refine CT.cond rfl (fun _ => ?_) (fun _ => ?_) | refine CT.skip ?_ | refine CT.exit ?_ | refine CT.ret ?_ | refine LT.nil ?_ | refine HT.nil1 ?_ | (refine LT.consT ?_; (first | refine T.box (e := 30) (cs := [.val _, .val _]) rfl rfl (by decide) rfl rfl ?_ | refine T.alloc (e := 50) (z := .agg #[.int .u64 0, .int .u64 0, .int .i64 0, .int .i64 0]) (cs := [.val (.int .u64 0), .val (.int .u64 0), .val (.int .i64 0), .val (.int .i64 0)]) (by kernel_rfl) rfl (by decide) rfl rfl ?_ | refine T.store (t := 50) rfl rfl rfl (by kernel_rfl) (by kernel_rfl) (Nat.le_of_ble_eq_true (by kernel_rfl)) rfl rfl ?_)) | ((first | apply LT.cons1 | (apply LT.guard1; rfl; rfl; rfl; decide) | apply HT.cons1 | (apply HT.guard1; rfl; rfl; rfl)); (first | exact OpH.callF Try.func45 rfl rfl rfl gM rfl | exact arm18_1); (try decide)) | refine LT.skip1 rfl rfl rfl (by decide) (by decide) ?_ | refine LT.skip2 rfl rfl (by decide) (by decide) ?_ | refine LT.partD rfl rfl (fun _ => ?_) (fun _ => ?_) | refine LT.partN rfl rfl (fun _ => ?_) (fun _ => ?_) | refine HT.skip1 rfl rfl rfl ?_ | refine HT.skip2 rfl rfl ?_ | refine HT.partD rfl rfl (fun _ => ?_) (fun _ => ?_) | refine HT.partN rfl rfl (fun _ => ?_) (fun _ => ?_) | ((first | refine LT.part1 rfl rfl (fun h => ?_) (fun h => ?_) | refine HT.part1 rfl rfl (fun h => ?_) (fun h => ?_)); (fail_if_success exact absurd h (by decide)); rotate_left; (fail_if_success exact absurd h (by decide)); rotate_left))
          refine ⟨by first | exact .inl rfl | exact .inr rfl, _, (.cons (.many 4 (vs := [_, _, _, _]) rfl rfl (by kernel_rfl) rfl rfl) (.cons (.tmp 5 (A := .val _) rfl (fun _ h => by cases h)) .nil)), ?_, rfl⟩
          rw [hb]
          rfl
        | false =>
          rw [hm] at gM
          repeat' (first | refine CT.seqR ?_ | refine CT.seqD (id := 7) 16 (by kernel_rfl) (by kernel_rfl) ?_ | refine CT.draw (id := 7) 16 (by kernel_rfl) (by kernel_rfl) ?_ | refine CT.region ?_ | refine CT.seq1 ?_ | refine CT.block ?_ | refine CT.condT rfl ?_ | refine CT.condF rfl ?_ | refine CT.condD rfl (fun _ => ?_) (fun _ => ?_) | refine CT.condN rfl (fun _ => ?_) (fun _ => ?_) | refine CT.cond rfl (fun _ => ?_) (fun _ => ?_) | refine CT.skip ?_ | refine CT.exit ?_ | refine CT.ret ?_ | refine LT.nil ?_ | refine HT.nil1 ?_ | (refine LT.consT ?_; (first | refine T.box (e := 30) (cs := [.val _, .val _]) rfl rfl (by decide) rfl rfl ?_ | refine T.alloc (e := 50) (z := .agg #[.int .u64 0, .int .u64 0, .int .i64 0, .int .i64 0]) (cs := [.val (.int .u64 0), .val (.int .u64 0), .val (.int .i64 0), .val (.int .i64 0)]) (by kernel_rfl) rfl (by decide) rfl rfl ?_ | refine T.store (t := 50) rfl rfl rfl (by kernel_rfl) (by kernel_rfl) (Nat.le_of_ble_eq_true (by kernel_rfl)) rfl rfl ?_)) | ((first | apply LT.cons1 | (apply LT.guard1; rfl; rfl; rfl; decide) | apply HT.cons1 | (apply HT.guard1; rfl; rfl; rfl)); (first | exact OpH.callF Try.func45 rfl rfl rfl gM rfl | exact arm18_1); (try decide)) | refine LT.skip1 rfl rfl rfl (by decide) (by decide) ?_ | refine LT.skip2 rfl rfl (by decide) (by decide) ?_ | refine LT.partD rfl rfl (fun _ => ?_) (fun _ => ?_) | refine LT.partN rfl rfl (fun _ => ?_) (fun _ => ?_) | refine HT.skip1 rfl rfl rfl ?_ | refine HT.skip2 rfl rfl ?_ | refine HT.partD rfl rfl (fun _ => ?_) (fun _ => ?_) | refine HT.partN rfl rfl (fun _ => ?_) (fun _ => ?_) | ((first | refine LT.part1 rfl rfl (fun h => ?_) (fun h => ?_) | refine HT.part1 rfl rfl (fun h => ?_) (fun h => ?_)); (fail_if_success exact absurd h (by decide)); rotate_left; (fail_if_success exact absurd h (by decide)); rotate_left))
          refine ⟨i + 1, ⟨by omega, fun j hj hji => ?_⟩, by omega, ?_⟩
          · by_cases e : j = i
            · subst e; rw [hm]; exact fun h => by cases h.2
            · exact hc j hj (by omega)
          · (apply Sub.mk; (focus (repeat (first | exact .nil | refine .other (.keep rfl rfl) ?_ | refine .other (.aref rfl rfl rfl) ?_ | refine .other (.val rfl (by first | rfl | (congr 1; first | omega | assumption | (symm; assumption)) | (simp; omega))) ?_ | refine .other .dead ?_ | refine .other (.sl rfl (.row _ _ _ _) rfl) ?_ | refine .other (.sl rfl (.sl _ _) rfl) ?_ | refine .other (.sl rfl (.full _ _) rfl) ?_ | refine .other (.slNil rfl rfl) ?_ | refine .rowNil rfl rfl rfl ?_ | refine .row rfl (by first | rfl | assumption | (rw [← List.map_append]; first | done | rfl | congr 1)) rfl rfl ?_))); (focus (repeat (first | exact .nil | refine KeepB.same rfl rfl rfl ?_ | refine KeepB.sameA rfl rfl rfl ?_))); (focus (repeat (first | exact .nil | refine KeepA.cons rfl (by first | rfl | assumption | exact List.map_set | exact List.map_set.symm | (rw [← List.map_append]; first | done | rfl | congr 1) | (congr 1; first | omega | assumption)) ?_))))
      · repeat' (first | refine CT.seqR ?_ | refine CT.seqD (id := 7) 16 (by kernel_rfl) (by kernel_rfl) ?_ | refine CT.draw (id := 7) 16 (by kernel_rfl) (by kernel_rfl) ?_ | refine CT.region ?_ | refine CT.seq1 ?_ | refine CT.block ?_ | refine CT.condT rfl ?_ | refine CT.condF rfl ?_ | refine CT.condD rfl (fun _ => ?_) (fun _ => ?_) | refine CT.condN rfl (fun _ => ?_) (fun _ => ?_) | refine CT.cond rfl (fun _ => ?_) (fun _ => ?_) | refine CT.skip ?_ | refine CT.exit ?_ | refine CT.ret ?_ | refine LT.nil ?_ | refine HT.nil1 ?_ | (refine LT.consT ?_; (first | refine T.box (e := 30) (cs := [.val _, .val _]) rfl rfl (by decide) rfl rfl ?_ | refine T.alloc (e := 50) (z := .agg #[.int .u64 0, .int .u64 0, .int .i64 0, .int .i64 0]) (cs := [.val (.int .u64 0), .val (.int .u64 0), .val (.int .i64 0), .val (.int .i64 0)]) (by kernel_rfl) rfl (by decide) rfl rfl ?_ | refine T.store (t := 50) rfl rfl rfl (by kernel_rfl) (by kernel_rfl) (Nat.le_of_ble_eq_true (by kernel_rfl)) rfl rfl ?_)) | ((first | apply LT.cons1 | (apply LT.guard1; rfl; rfl; rfl; decide) | apply HT.cons1 | (apply HT.guard1; rfl; rfl; rfl)); (first | exact arm18_1); (try decide)) | refine LT.skip1 rfl rfl rfl (by decide) (by decide) ?_ | refine LT.skip2 rfl rfl (by decide) (by decide) ?_ | refine LT.partD rfl rfl (fun _ => ?_) (fun _ => ?_) | refine LT.partN rfl rfl (fun _ => ?_) (fun _ => ?_) | refine HT.skip1 rfl rfl rfl ?_ | refine HT.skip2 rfl rfl ?_ | refine HT.partD rfl rfl (fun _ => ?_) (fun _ => ?_) | refine HT.partN rfl rfl (fun _ => ?_) (fun _ => ?_) | ((first | refine LT.part1 rfl rfl (fun h => ?_) (fun h => ?_) | refine HT.part1 rfl rfl (fun h => ?_) (fun h => ?_)); (fail_if_success exact absurd h (by decide)); rotate_left; (fail_if_success exact absurd h (by decide)); rotate_left))
        refine ⟨i + 1, ⟨by omega, fun j hj hji => ?_⟩, by omega, ?_⟩
        · by_cases e : j = i
          · subst e; exact fun h => hle h.1
          · exact hc j hj (by omega)
        · (apply Sub.mk; (focus (repeat (first | exact .nil | refine .other (.keep rfl rfl) ?_ | refine .other (.aref rfl rfl rfl) ?_ | refine .other (.val rfl (by first | rfl | (congr 1; first | omega | assumption | (symm; assumption)) | (simp; omega))) ?_ | refine .other .dead ?_ | refine .other (.sl rfl (.row _ _ _ _) rfl) ?_ | refine .other (.sl rfl (.sl _ _) rfl) ?_ | refine .other (.sl rfl (.full _ _) rfl) ?_ | refine .other (.slNil rfl rfl) ?_ | refine .rowNil rfl rfl rfl ?_ | refine .row rfl (by first | rfl | assumption | (rw [← List.map_append]; first | done | rfl | congr 1)) rfl rfl ?_))); (focus (repeat (first | exact .nil | refine KeepB.same rfl rfl rfl ?_ | refine KeepB.sameA rfl rfl rfl ?_))); (focus (repeat (first | exact .nil | refine KeepA.cons rfl (by first | rfl | assumption | exact List.map_set | exact List.map_set.symm | (rw [← List.map_append]; first | done | rfl | congr 1) | (congr 1; first | omega | assumption)) ?_))))
    · obtain rfl : i = l.length := by omega
      repeat' (first | refine CT.seqR ?_ | refine CT.seqD (id := 7) 16 (by kernel_rfl) (by kernel_rfl) ?_ | refine CT.draw (id := 7) 16 (by kernel_rfl) (by kernel_rfl) ?_ | refine CT.region ?_ | refine CT.seq1 ?_ | refine CT.block ?_ | refine CT.condT rfl ?_ | refine CT.condF rfl ?_ | refine CT.condD rfl (fun _ => ?_) (fun _ => ?_) | refine CT.condN rfl (fun _ => ?_) (fun _ => ?_) | refine CT.cond rfl (fun _ => ?_) (fun _ => ?_) | refine CT.skip ?_ | refine CT.exit ?_ | refine CT.ret ?_ | refine LT.nil ?_ | refine HT.nil1 ?_ | (refine LT.consT ?_; (first | refine T.box (e := 30) (cs := [.val _, .val _]) rfl rfl (by decide) rfl rfl ?_ | refine T.alloc (e := 50) (z := .agg #[.int .u64 0, .int .u64 0, .int .i64 0, .int .i64 0]) (cs := [.val (.int .u64 0), .val (.int .u64 0), .val (.int .i64 0), .val (.int .i64 0)]) (by kernel_rfl) rfl (by decide) rfl rfl ?_ | refine T.store (t := 50) rfl rfl rfl (by kernel_rfl) (by kernel_rfl) (Nat.le_of_ble_eq_true (by kernel_rfl)) rfl rfl ?_)) | ((first | apply LT.cons1 | (apply LT.guard1; rfl; rfl; rfl; decide) | apply HT.cons1 | (apply HT.guard1; rfl; rfl; rfl)); (first | exact arm18_1); (try decide)) | refine LT.skip1 rfl rfl rfl (by decide) (by decide) ?_ | refine LT.skip2 rfl rfl (by decide) (by decide) ?_ | refine LT.partD rfl rfl (fun _ => ?_) (fun _ => ?_) | refine LT.partN rfl rfl (fun _ => ?_) (fun _ => ?_) | refine HT.skip1 rfl rfl rfl ?_ | refine HT.skip2 rfl rfl ?_ | refine HT.partD rfl rfl (fun _ => ?_) (fun _ => ?_) | refine HT.partN rfl rfl (fun _ => ?_) (fun _ => ?_) | ((first | refine LT.part1 rfl rfl (fun h => ?_) (fun h => ?_) | refine HT.part1 rfl rfl (fun h => ?_) (fun h => ?_)); (fail_if_success exact absurd h (by decide)); rotate_left; (fail_if_success exact absurd h (by decide)); rotate_left))
      refine ⟨n - 1, ⟨by omega, by omega, fun k h1 h2 => ?_⟩, by omega, ?_⟩
      · by_cases e : (k : Int) = n
        · rw [e]; exact bestAt_no hc
        · exact hn k (by omega) h2
      · (apply Sub.mk; (focus (repeat (first | exact .nil | refine .other (.keep rfl rfl) ?_ | refine .other (.aref rfl rfl rfl) ?_ | refine .other (.val rfl (by first | rfl | (congr 1; first | omega | assumption | (symm; assumption)) | (simp; omega))) ?_ | refine .other .dead ?_ | refine .other (.sl rfl (.row _ _ _ _) rfl) ?_ | refine .other (.sl rfl (.sl _ _) rfl) ?_ | refine .other (.sl rfl (.full _ _) rfl) ?_ | refine .other (.slNil rfl rfl) ?_ | refine .rowNil rfl rfl rfl ?_ | refine .row rfl (by first | rfl | assumption | (rw [← List.map_append]; first | done | rfl | congr 1)) rfl rfl ?_))); (focus (repeat (first | exact .nil | refine KeepB.same rfl rfl rfl ?_ | refine KeepB.sameA rfl rfl rfl ?_))); (focus (repeat (first | exact .nil | refine KeepA.cons rfl (by first | rfl | assumption | exact List.map_set | exact List.map_set.symm | (rw [← List.map_append]; first | done | rfl | congr 1) | (congr 1; first | omega | assumption)) ?_))))
  · have hb : bestO l a = none := best_none' fun k hk => hn k (by omega) hk
    repeat' (first | refine CT.seqR ?_ | refine CT.seqD (id := 7) 16 (by kernel_rfl) (by kernel_rfl) ?_ | refine CT.draw (id := 7) 16 (by kernel_rfl) (by kernel_rfl) ?_ | refine CT.region ?_ | refine CT.seq1 ?_ | refine CT.block ?_ | refine CT.condT rfl ?_ | refine CT.condF rfl ?_ | refine CT.condD rfl (fun _ => ?_) (fun _ => ?_) | refine CT.condN rfl (fun _ => ?_) (fun _ => ?_) | refine CT.cond rfl (fun _ => ?_) (fun _ => ?_) | refine CT.skip ?_ | refine CT.exit ?_ | refine CT.ret ?_ | refine LT.nil ?_ | refine HT.nil1 ?_ | (refine LT.consT ?_; (first | refine T.box (e := 30) (cs := [.val _, .val _]) rfl rfl (by decide) rfl rfl ?_ | refine T.alloc (e := 50) (z := .agg #[.int .u64 0, .int .u64 0, .int .i64 0, .int .i64 0]) (cs := [.val (.int .u64 0), .val (.int .u64 0), .val (.int .i64 0), .val (.int .i64 0)]) (by kernel_rfl) rfl (by decide) rfl rfl ?_ | refine T.store (t := 50) rfl rfl rfl (by kernel_rfl) (by kernel_rfl) (Nat.le_of_ble_eq_true (by kernel_rfl)) rfl rfl ?_)) | ((first | apply LT.cons1 | (apply LT.guard1; rfl; rfl; rfl; decide) | apply HT.cons1 | (apply HT.guard1; rfl; rfl; rfl)); (first | exact arm18_1); (try decide)) | refine LT.skip1 rfl rfl rfl (by decide) (by decide) ?_ | refine LT.skip2 rfl rfl (by decide) (by decide) ?_ | refine LT.partD rfl rfl (fun _ => ?_) (fun _ => ?_) | refine LT.partN rfl rfl (fun _ => ?_) (fun _ => ?_) | refine HT.skip1 rfl rfl rfl ?_ | refine HT.skip2 rfl rfl ?_ | refine HT.partD rfl rfl (fun _ => ?_) (fun _ => ?_) | refine HT.partN rfl rfl (fun _ => ?_) (fun _ => ?_) | ((first | refine LT.part1 rfl rfl (fun h => ?_) (fun h => ?_) | refine HT.part1 rfl rfl (fun h => ?_) (fun h => ?_)); (fail_if_success exact absurd h (by decide)); rotate_left; (fail_if_success exact absurd h (by decide)); rotate_left))
    refine ⟨by first | exact .inl rfl | exact .inr rfl, _, (.cons (.many 4 (vs := [_, _, _, _]) rfl rfl (by kernel_rfl) rfl rfl) (.cons (.tmp 5 (A := .val _) rfl (fun _ h => by cases h)) .nil)), ?_, rfl⟩
    rw [hb]
    rfl
end Go.Proofs.Ytkfmammkbmhfaaa

/- Tables of routes: law06.Of, ref06.Right, ref06.Table, law09.Table. -/
namespace Go.Proofs.Ytkfmammkbmhfaaa
set_option linter.unusedSimpArgs false
set_option linter.unusedVariables false
open Go Go.RowKit Go.Shelf
def rrRight (r : Rte) : Bool := rpRight r.p && (decide (1 ≤ r.act) && decide (r.act ≤ 255))
def TabTo (rs : List Rte) (k : Nat) : Prop := ∀ (i : Nat) (hi : i < rs.length), i < k → rrRight rs[i] = true ∧ ∀ h0 : 0 < i, pLt (rs[i - 1]'(by omega)).p rs[i].p
theorem TabTo.step {rs : List Rte} {k : Nat} (h : TabTo rs k) (hk : k < rs.length) (h1 : rrRight rs[k] = true) (h2 : ∀ h0 : 0 < k, pLt (rs[k - 1]'(by omega)).p rs[k].p) : TabTo rs (k + 1) := fun i hi hik => by
  by_cases e : i = k
  · subst e; exact ⟨h1, h2⟩
  · exact h i hi (by omega)
attribute [local irreducible] OpH OpT LT CT HT Good
theorem arm21_1 {p : Prop} (h : p := by first | exact OpH.fieldC (s := 33) (f := 0) (off := 0) rfl (by kernel_rfl) rfl | exact OpH.fieldB (s := 33) (f := 0) (off := 0) rfl (by kernel_rfl) rfl | exact loadC2 (t := 31) rfl (by kernel_rfl) | exact loadB2 (t := 31) rfl rfl (by kernel_rfl) rfl | exact OpH.fieldC (s := 33) (f := 1) (off := 2) rfl (by kernel_rfl) rfl | exact OpH.fieldB (s := 33) (f := 1) (off := 2) rfl (by kernel_rfl) rfl | exact OpH.loadC1 (t := 3) rfl (by kernel_rfl) rfl | exact OpH.loadB1 (t := 3) rfl rfl (by kernel_rfl) rfl | exact build_48_0_1 rfl rfl | exact OpH.build (t := 48) (cells := #[_, _, _]) (by kernel_rfl) rfl) : p := h
set_option maxRecDepth 100000 in
set_option maxHeartbeats 2000000 in
theorem g_law2Of (p : Pfx) : Good Try.prog 21 [.val (.agg #[.int .u64 p.a.x, .int .u64 p.a.y, .int .i64 p.len])] (.val (.agg #[.int .u64 p.a.x, .int .u64 p.a.y, .int .i64 p.len])) := by
  refine Good.of_body (T := [(0, _)]) Try.func21 rfl rfl rfl ?_
  intro K0 w0 hno
  repeat' (first | refine CT.seqR ?_ | refine CT.region ?_ | refine CT.seq1 ?_ | refine CT.block ?_ | refine CT.condT rfl ?_ | refine CT.condF rfl ?_ | refine CT.condD rfl (fun _ => ?_) (fun _ => ?_) | refine CT.condN rfl (fun _ => ?_) (fun _ => ?_) | refine CT.cond rfl (fun _ => ?_) (fun _ => ?_) | refine CT.skip ?_ | refine CT.exit ?_ | refine CT.ret ?_ | refine LT.nil ?_ | refine HT.nil1 ?_ | (refine LT.consT ?_; (first | refine T.box (e := 33) (cs := [.val _, .val _, .val _]) rfl rfl (by decide) rfl rfl ?_ | refine T.alloc (e := 48) (z := .agg #[.int .u64 0, .int .u64 0, .int .i64 0]) (cs := [.val (.int .u64 0), .val (.int .u64 0), .val (.int .i64 0)]) (by kernel_rfl) rfl (by decide) rfl rfl ?_ | refine T.store (t := 48) rfl rfl rfl (by kernel_rfl) (by kernel_rfl) (Nat.le_of_ble_eq_true (by kernel_rfl)) rfl rfl ?_)) | (apply LT.cons1; (first | exact OpH.build (t := 48) (cells := #[.int .u64 p.a.x, .int .u64 p.a.y, .int .i64 p.len]) (by kernel_rfl) (by kernel_rfl) | exact arm21_1); decide))
  refine ⟨by first | exact .inl rfl | exact .inr rfl, _, (.cons (.many 2 (vs := [_, _, _]) rfl rfl (by kernel_rfl) rfl rfl) .nil), ?_, rfl⟩
  rfl
theorem arm19_1 {p : Prop} (h : p := by first | exact OpH.fieldC (s := 35) (f := 0) (off := 0) rfl (by kernel_rfl) rfl | exact OpH.fieldB (s := 35) (f := 0) (off := 0) rfl (by kernel_rfl) rfl | exact loadC3 (t := 33) rfl (by kernel_rfl) | exact loadB3 (t := 33) rfl rfl (by kernel_rfl) rfl | exact OpH.fieldC (s := 35) (f := 1) (off := 3) rfl (by kernel_rfl) rfl | exact OpH.fieldB (s := 35) (f := 1) (off := 3) rfl (by kernel_rfl) rfl | exact OpH.loadC1 (t := 3) rfl (by kernel_rfl) rfl | exact OpH.loadB1 (t := 3) rfl rfl (by kernel_rfl) rfl | exact build_50_0_1 rfl rfl | exact OpH.build (t := 50) (cells := #[_, _, _, _]) (by kernel_rfl) rfl) : p := h
set_option maxRecDepth 100000 in
set_option maxHeartbeats 2000000 in
theorem g_law6One (r : Rte) : Good Try.prog 19 [.val (.agg #[.int .u64 r.p.a.x, .int .u64 r.p.a.y, .int .i64 r.p.len, .int .i64 r.act])] (.val (.agg #[.int .u64 r.p.a.x, .int .u64 r.p.a.y, .int .i64 r.p.len, .int .i64 r.act])) := by
  refine Good.of_body (T := [(0, _)]) Try.func19 rfl rfl rfl ?_
  intro K0 w0 hno
  repeat' (first | refine CT.seqR ?_ | refine CT.seqD (id := 1) 6 (by kernel_rfl) (by kernel_rfl) ?_ | refine CT.draw (id := 1) 6 (by kernel_rfl) (by kernel_rfl) ?_ | refine CT.region ?_ | refine CT.seq1 ?_ | refine CT.block ?_ | refine CT.condT rfl ?_ | refine CT.condF rfl ?_ | refine CT.condD rfl (fun _ => ?_) (fun _ => ?_) | refine CT.condN rfl (fun _ => ?_) (fun _ => ?_) | refine CT.cond rfl (fun _ => ?_) (fun _ => ?_) | refine CT.skip ?_ | refine CT.exit ?_ | refine CT.ret ?_ | refine LT.nil ?_ | refine HT.nil1 ?_ | (refine LT.consT ?_; (first | refine T.box (e := 35) (cs := [.val _, .val _, .val _, .val _]) rfl rfl (by decide) rfl rfl ?_ | refine T.alloc (e := 50) (z := .agg #[.int .u64 0, .int .u64 0, .int .i64 0, .int .i64 0]) (cs := [.val (.int .u64 0), .val (.int .u64 0), .val (.int .i64 0), .val (.int .i64 0)]) (by kernel_rfl) rfl (by decide) rfl rfl ?_ | refine T.store (t := 50) rfl rfl rfl (by kernel_rfl) (by kernel_rfl) (Nat.le_of_ble_eq_true (by kernel_rfl)) rfl rfl ?_)) | ((first | apply LT.cons1 | apply HT.cons1); (first | exact OpH.callF Try.func21 rfl rfl rfl (g_law2Of r.p) rfl | exact OpH.build (t := 50) (cells := #[.int .u64 r.p.a.x, .int .u64 r.p.a.y, .int .i64 r.p.len, .int .i64 r.act]) (by kernel_rfl) (by kernel_rfl) | exact arm19_1); (try decide)))
  refine ⟨by first | exact .inl rfl | exact .inr rfl, _, (.cons (.many 2 (vs := [_, _, _, _]) rfl rfl (by kernel_rfl) rfl rfl) .nil), ?_, rfl⟩
  rfl
end Go.Proofs.Ytkfmammkbmhfaaa

/- Trees of bits, in plain Lean: the best route of an address. -/
namespace Go.Proofs.Ytkfmammkbmhfaaa
set_option linter.unusedSimpArgs false
set_option linter.unusedVariables false
open Go
theorem match_bits {p : Pfx} (hp : Canon p) (a : A2) : rpMatch p a = true ↔ pBits p = fstB a p.len.toNat := by
  rw [rpm_iff hp]
  unfold pBits
  have := hp.lo
  constructor
  · intro h
    exact fstB_congr fun i hi => h i (by omega)
  · intro h i hi
    exact fstB_get h i (by omega)
theorem bestO_is {l : List Rte} (hc : ∀ r ∈ l, Canon r.p) (hs : l.Pairwise fun x y => pLt x.p y.p) {a : A2} {r : Rte} (hr : r ∈ l) (hm : rpMatch r.p a = true) (hx : ∀ s ∈ l, rpMatch s.p a = true → s.p.len ≤ r.p.len) : bestO l a = some r := by
  rcases bestO_spec hc a with ⟨_, h2⟩ | ⟨s, h1, h2, h3, h4⟩
  · rw [h2 r hr] at hm; cases hm
  · rw [h2]
    have e1 := h4 r hr hm
    have e2 := hx s h1 h3
    rw [sorted_same hs h1 hr (same_match (hc s h1) (hc r hr) (by omega) h3 hm)]
theorem bestO_no {l : List Rte} (hc : ∀ r ∈ l, Canon r.p) {a : A2} (hx : ∀ s ∈ l, rpMatch s.p a = false) : bestO l a = none := by
  rcases bestO_spec hc a with ⟨h1, _⟩ | ⟨s, h1, _, h3, _⟩
  · exact h1
  · rw [hx s h1] at h3; cases h3
theorem make_bits {a : A2} (ha : a.ok) {k : Nat} (hk : k ≤ 128) : Canon (pMake a k) ∧ (pMake a k).len = k ∧ pBits (pMake a k) = fstB a k := by
  obtain ⟨h1, h2, h3⟩ := make_canon ha (n := (k : Int)) (by omega) (by omega)
  refine ⟨h1, h2, ?_⟩
  unfold pBits
  rw [h2, Int.toNat_natCast]
  exact fstB_congr fun i hi => h3 i (by omega)
theorem Tri.best {w : Int} {l : List Nd} {f : List Nat} {rs : List Rte} (h : Tri w l f rs) {a : A2} (ha : a.ok) : ∀ k : Nat, k ≤ 129 → bst l a k = rteO (bestO (rs.filter fun r => decide (r.p.len < k)) a) := by
  have ht := h.tab
  obtain ⟨pos, dom, act, h1, _, h3, _⟩ := h
  intro k
  induction k with
  | zero =>
    intro _
    have : rs.filter (fun r => decide (r.p.len < ((0 : Nat) : Int))) = [] := by
      rw [List.filter_eq_nil_iff]
      intro r hr
      have := (ht.canon r hr).lo
      simp; omega
    rw [this]; rfl
  | succ k ih =>
    intro hk
    have ih := ih (by omega)
    have hact : (nth l (wlk l a k)).act = act (fstB a k) := by
      rw [h1.wlk]
      by_cases hz : pos (fstB a k) = 0
      · rw [hz, h1.zero]
        exact (Decidable.byContradiction fun hc => h1.actz _ (Ne.symm hc) hz)
      · rw [h1.node _ hz]
    obtain ⟨m1, m2, m3⟩ := make_bits ha (show k ≤ 128 by omega)
    have hfc : ∀ (n : Int), ∀ r ∈ rs.filter (fun r => decide (r.p.len < n)), Canon r.p := fun n r hr => ht.canon r (List.mem_filter.1 hr).1
    have hfs : ∀ (n : Int), (rs.filter (fun r => decide (r.p.len < n))).Pairwise fun x y => pLt x.p y.p := fun n => ht.sorted.filter _
    show (if 0 < (nth l (wlk l a k)).act then _ else _) = _
    rw [hact]
    by_cases hp : 0 < act (fstB a k)
    · rw [if_pos hp]
      obtain ⟨r, hr, hb⟩ := h3.only _ (show act (fstB a k) ≠ 0 by omega)
      have hrp : r.p = pMake a k := pBits_inj (ht.canon r hr) m1 (hb.trans m3.symm)
      have hra := h3.is r hr
      rw [hb] at hra
      have hmem : r ∈ rs.filter (fun r => decide (r.p.len < ((k + 1 : Nat) : Int))) := List.mem_filter.2 ⟨hr, by rw [hrp, m2]; simp; omega⟩
      have hmt : rpMatch r.p a = true := (match_bits (ht.canon r hr) a).2 (by rw [hrp, m2, Int.toNat_natCast]; exact m3)
      rw [bestO_is (hfc _) (hfs _) hmem hmt (fun s hs _ => by have := (List.mem_filter.1 hs).2; simp at this; rw [hrp, m2]; omega)]
      show (⟨pMake a k, act (fstB a k)⟩ : Rte) = r
      rw [← hrp, hra]
    · rw [if_neg hp, ih]
      have hno : ∀ s ∈ rs, s.p.len = k → rpMatch s.p a = false := fun s hs hl => by
        cases hm : rpMatch s.p a with
        | false => rfl
        | true =>
          have hb := (match_bits (ht.canon s hs) a).1 hm
          rw [hl, Int.toNat_natCast] at hb
          have := h3.is s hs
          rw [hb] at this
          have := (ht.act s hs).1
          omega
      rcases bestO_spec (hfc ((k + 1 : Nat) : Int)) a with ⟨e1, e2⟩ | ⟨r, e1, e2, e3, e4⟩
      · rw [e1, bestO_no (hfc _) fun s hs => e2 s (List.mem_filter.2 ⟨(List.mem_filter.1 hs).1, by have := (List.mem_filter.1 hs).2; simp at this ⊢; omega⟩)]
      · obtain ⟨q1, q2⟩ := List.mem_filter.1 e1
        have hne : r.p.len ≠ k := fun hl => by rw [hno r q1 hl] at e3; cases e3
        have hmem : r ∈ rs.filter (fun r => decide (r.p.len < (k : Int))) := List.mem_filter.2 ⟨q1, by simp at q2 ⊢; omega⟩
        rw [e2, bestO_is (hfc _) (hfs _) hmem e3 (fun s hs hsm => e4 s (List.mem_filter.2 ⟨(List.mem_filter.1 hs).1, by have := (List.mem_filter.1 hs).2; simp at this ⊢; omega⟩) hsm)]
theorem Tri.bestAll {w : Nat} (hw : w ≤ 128) {l : List Nd} {f : List Nat} {rs : List Rte} (h : Tri w l f rs) {a : A2} (ha : a.ok) : bst l a (w + 1) = rteO (bestO rs a) := by
  rw [h.best ha (w + 1) (by omega)]
  have : rs.filter (fun r => decide (r.p.len < ((w + 1 : Nat) : Int))) = rs := List.filter_eq_self.2 fun r hr => by
    have := h.tab.len r hr
    simp; omega
  rw [this]
theorem rteO_act {rs : List Rte} (h : ∀ r ∈ rs, 1 ≤ r.act ∧ r.act ≤ 255) {o : Option Rte} (ho : ∀ r, o = some r → r ∈ rs) : decide (0 < (rteO o).act) = o.isSome := by
  cases o with
  | none => rfl
  | some r => have := (h r (ho r rfl)).1; show decide (0 < r.act) = true; exact decide_eq_true (by omega)
theorem bestO_mem {l : List Rte} (hc : ∀ r ∈ l, Canon r.p) {a : A2} {r : Rte} (h : bestO l a = some r) : r ∈ l := by
  rcases bestO_spec hc a with ⟨h1, _⟩ | ⟨s, h1, h2, _, _⟩
  · rw [h1] at h; cases h
  · rw [h2] at h; injection h with h; subst h; exact h1
end Go.Proofs.Ytkfmammkbmhfaaa
