/- What addr.Common, prefix.Match, prefix.Covers and the reference's prefixes do. -/
import Derived.Test.YtkfmammkbmhfaaaXLen
import Derived.Test.YtkfmammkbmhfaaaXAbs16
import Derived.Test.YtkfmammkbmhfaaaXWalkW
import Derived.Test.YtkfmammkbmhfaaaXAbs8
namespace Go.Proofs.Ytkfmammkbmhfaaa
set_option linter.unusedSimpArgs false
set_option linter.unusedVariables false
open Go Go.RowKit Go.Shelf
attribute [local irreducible] OpH OpT LT CT HT Good
theorem arm45_1 {p : Prop} (h : p := by first | exact OpH.assign (v := .val _) rfl | exact OpH.assign (v := .sl _ _) rfl | exact OpH.assign (v := .row _ _ _ _) rfl | exact OpH.assign (v := .full _ _) rfl | exact OpH.assign (v := .ptr _ _) rfl | exact OpH.assign (v := .cptr _) rfl | exact OpH.assign (v := .cloB _ _) rfl | exact OpH.assign (v := .clo _ _) rfl | exact OpH.assign (v := .pr _) rfl | exact OpH.assign (v := .arow _) rfl | exact OpH.assign (v := .aptr _ _ _ _) rfl | exact OpH.assign (v := .asub _ _ _ _) rfl | exact OpH.assign (v := .tup _) rfl | exact OpH.fieldC (s := 48) (f := 0) (off := 0) rfl (by kernel_rfl) rfl | exact OpH.fieldB (s := 48) (f := 0) (off := 0) rfl (by kernel_rfl) rfl | exact loadC2 (t := 30) rfl (by kernel_rfl) | exact loadB2 (t := 30) rfl rfl (by kernel_rfl) rfl | exact OpH.move (v := .val _) rfl | exact OpH.move (v := .sl _ _) rfl | exact OpH.move (v := .row _ _ _ _) rfl | exact OpH.move (v := .full _ _) rfl | exact OpH.move (v := .ptr _ _) rfl | exact OpH.move (v := .cptr _) rfl | exact OpH.move (v := .cloB _ _) rfl | exact OpH.move (v := .clo _ _) rfl | exact OpH.move (v := .pr _) rfl | exact OpH.move (v := .arow _) rfl | exact OpH.move (v := .aptr _ _ _ _) rfl | exact OpH.move (v := .asub _ _ _ _) rfl | exact OpH.move (v := .tup _) rfl | exact OpH.fieldC (s := 48) (f := 1) (off := 2) rfl (by kernel_rfl) rfl | exact OpH.fieldB (s := 48) (f := 1) (off := 2) rfl (by kernel_rfl) rfl | exact OpH.loadC1 (t := 3) rfl (by kernel_rfl) rfl | exact OpH.loadB1 (t := 3) rfl rfl (by kernel_rfl) rfl | exact OpH.callF Try.func58 rfl rfl rfl (g_near _) rfl | exact OpH.bin rfl rfl (pb_lss_t (by omega)) | exact OpH.bin rfl rfl (pb_lss_f (by omega)) | exact OpH.bin rfl rfl (pb_lss) | exact OpH.indexS (t := 92) (k := 1) rfl slP rfl rfl (by kernel_rfl) (map_at bd) rfl | exact OpH.loadC1 (t := 4) rfl (by kernel_rfl) rfl | exact OpH.loadB1 (t := 4) rfl rfl (by kernel_rfl) rfl | exact OpH.bin (xt := 4) rfl rfl (pb_of (pb_neqB (by kernel_rfl)) (nbeqB_f (by first | rfl | assumption))) | exact OpH.bin (xt := 4) rfl rfl (pb_neqB (by kernel_rfl)) | exact OpH.bin rfl rfl (pb_inc (by omega)) | exact OpH.bin rfl rfl (pb_addN rfl (by omega)) | exact OpH.bin rfl rfl (pb_add (by omega)) | exact OpH.bin rfl rfl (pb_addw)) : p := h
set_option maxRecDepth 100000 in
set_option maxHeartbeats 2000000 in
theorem g_r2Match (p : Pfx) (a : A2) (hp : p.a.ok) (ha : a.ok) : Good Try.prog 45 [.val (.agg #[.int .u64 p.a.x, .int .u64 p.a.y, .int .i64 p.len]), .val (.agg #[.int .u64 a.x, .int .u64 a.y])] (.val (.bool (rpMatch p a))) := by
  have gp : Good Try.prog 46 [.val (.agg #[.int .u64 p.a.x, .int .u64 p.a.y])] (.row 0 4 1 ((bitsL (abit p.a)).map encB)) := g_Bits p.a.x p.a.y hp
  have ga : Good Try.prog 46 [.val (.agg #[.int .u64 a.x, .int .u64 a.y])] (.row 0 4 1 ((bitsL (abit a)).map encB)) := g_Bits a.x a.y ha
  have hcl := clamp_range p.len
  obtain ⟨n, hn⟩ : ∃ n : Nat, clamp p.len = n := ⟨(clamp p.len).toNat, by omega⟩
  have en : rpMatch p a = allTo (eqP p.a a) n := by unfold rpMatch; rw [hn, Int.toNat_natCast]
  refine Good.of_body (T := [(0, _), (1, _)]) Try.func45 rfl rfl rfl ?_
  intro K0 w0 hno
  repeat' (first | (refine LT.consT ?_; refine T.callRow Try.func46 rfl rfl rfl gp (by decide) rfl ?_) | (refine LT.consT ?_; refine T.callRow Try.func46 rfl rfl rfl ga (by decide) rfl ?_) | refine CT.seqR ?_ | refine CT.seqD (id := 6) 8 (by kernel_rfl) (by kernel_rfl) ?_ | refine CT.draw (id := 6) 8 (by kernel_rfl) (by kernel_rfl) ?_ | refine CT.region ?_ | refine CT.seq1 ?_ | refine CT.block ?_ | refine CT.condT rfl ?_ | refine CT.condF rfl ?_ | refine CT.condD rfl (fun _ => ?_) (fun _ => ?_) | refine CT.condN rfl (fun _ => ?_) (fun _ => ?_) | refine CT.cond rfl (fun _ => ?_) (fun _ => ?_) | refine CT.skip ?_ | refine CT.exit ?_ | refine CT.ret ?_ | refine LT.nil ?_ | refine HT.nil1 ?_ | (refine LT.consT ?_; (first | refine T.box (e := 48) (cs := [.val _, .val _, .val _]) rfl rfl (by decide) rfl rfl ?_ | refine T.box (e := 30) (cs := [.val _, .val _]) rfl rfl (by decide) rfl rfl ?_)) | ((first | apply LT.cons1 | apply HT.cons1); (first | exact arm45_1); (try decide)))
  refine CT.loopX (fun k : Nat => (⟨[(2, .ptr 2 0), (5, .row 5 4 1 ((bitsL (abit p.a)).map encB)), (6, .row 6 4 1 ((bitsL (abit a)).map encB)), (7, .val (.int .i64 k))],
      [(2, [.val (.int .u64 p.a.x), .val (.int .u64 p.a.y), .val (.int .i64 p.len)])], []⟩ : St))
    (fun k => k ≤ n ∧ allTo (eqP p.a a) k = true) (fun k => n - k) 0 ?_ ⟨by omega, rfl⟩ ?_
  · (apply Sub.mk; (focus (repeat (first | exact .nil | refine .other (.keep rfl rfl) ?_ | refine .other (.aref rfl rfl rfl) ?_ | refine .other (.val rfl (by first | rfl | (congr 1; first | omega | assumption | (symm; assumption)) | (simp; omega))) ?_ | refine .other .dead ?_ | refine .other (.sl rfl (.row _ _ _ _) rfl) ?_ | refine .other (.sl rfl (.sl _ _) rfl) ?_ | refine .other (.sl rfl (.full _ _) rfl) ?_ | refine .other (.slNil rfl rfl) ?_ | refine .rowNil rfl rfl rfl ?_ | refine .row rfl (by first | rfl | assumption | (rw [← List.map_append]; first | done | rfl | congr 1)) rfl rfl ?_))); (focus (repeat (first | exact .nil | refine KeepB.same rfl rfl rfl ?_ | refine KeepB.sameA rfl rfl rfl ?_))); (focus (repeat (first | exact .nil | refine KeepA.cons rfl (by first | rfl | assumption | exact List.map_set | exact List.map_set.symm | (rw [← List.map_append]; first | done | rfl | congr 1) | (congr 1; first | omega | assumption)) ?_))))
  rintro k ⟨hk, hall⟩
  have hl1 := bitsL_len (abit p.a)
  have hl2 := bitsL_len (abit a)
  by_cases hlt : k < n
  · have h1 : (bitsL (abit p.a))[k]'(by omega) = abit p.a k := bitsL_get _ (by omega) _
    have h2 : (bitsL (abit a))[k]'(by omega) = abit a k := bitsL_get _ (by omega) _
    repeat' (first | refine CT.seqR ?_ | refine CT.seqD (id := 6) 8 (by kernel_rfl) (by kernel_rfl) ?_ | refine CT.draw (id := 6) 8 (by kernel_rfl) (by kernel_rfl) ?_ | refine CT.region ?_ | refine CT.seq1 ?_ | refine CT.block ?_ | refine CT.condT rfl ?_ | refine CT.condF rfl ?_ | refine CT.condD rfl (fun _ => ?_) (fun _ => ?_) | refine CT.condN rfl (fun _ => ?_) (fun _ => ?_) | refine CT.cond rfl (fun _ => ?_) (fun _ => ?_) | refine CT.skip ?_ | refine CT.exit ?_ | refine CT.ret ?_ | refine LT.nil ?_ | refine HT.nil1 ?_ | (refine LT.consT ?_; (first | refine T.box (e := 48) (cs := [.val _, .val _, .val _]) rfl rfl (by decide) rfl rfl ?_ | refine T.box (e := 30) (cs := [.val _, .val _]) rfl rfl (by decide) rfl rfl ?_)) | ((first | apply LT.cons1 | apply HT.cons1); (first | exact arm45_1); (try decide)))
    · refine ⟨by first | exact .inl rfl | exact .inr rfl, _, (.cons (.tmp 4 (A := .val _) rfl (fun _ h => by cases h)) .nil), ?_, rfl⟩
      rename_i hne
      rw [h1, h2] at hne
      have : rpMatch p a = false := by
        rw [en]
        cases hq : allTo (eqP p.a a) n with
        | false => rfl
        | true =>
          have := (allTo_iff _ _).1 hq k hlt
          unfold eqP at this
          exact absurd (by simpa using this) hne
      rw [this]; rfl
    · rename_i heq
      rw [h1, h2] at heq
      refine ⟨k + 1, ⟨by omega, ?_⟩, by omega, ?_⟩
      · rw [allTo_iff] at hall ⊢
        intro i hi
        by_cases e : i = k
        · subst e; unfold eqP; rw [heq]; simp
        · exact hall i (by omega)
      · (apply Sub.mk; (focus (repeat (first | exact .nil | refine .other (.keep rfl rfl) ?_ | refine .other (.aref rfl rfl rfl) ?_ | refine .other (.val rfl (by first | rfl | (congr 1; first | omega | assumption | (symm; assumption)) | (simp; omega))) ?_ | refine .other .dead ?_ | refine .other (.sl rfl (.row _ _ _ _) rfl) ?_ | refine .other (.sl rfl (.sl _ _) rfl) ?_ | refine .other (.sl rfl (.full _ _) rfl) ?_ | refine .other (.slNil rfl rfl) ?_ | refine .rowNil rfl rfl rfl ?_ | refine .row rfl (by first | rfl | assumption | (rw [← List.map_append]; first | done | rfl | congr 1)) rfl rfl ?_))); (focus (repeat (first | exact .nil | refine KeepB.same rfl rfl rfl ?_ | refine KeepB.sameA rfl rfl rfl ?_))); (focus (repeat (first | exact .nil | refine KeepA.cons rfl (by first | rfl | assumption | exact List.map_set | exact List.map_set.symm | (rw [← List.map_append]; first | done | rfl | congr 1) | (congr 1; first | omega | assumption)) ?_))))
  · obtain rfl : k = n := by omega
    repeat' (first | refine CT.seqR ?_ | refine CT.seqD (id := 6) 8 (by kernel_rfl) (by kernel_rfl) ?_ | refine CT.draw (id := 6) 8 (by kernel_rfl) (by kernel_rfl) ?_ | refine CT.region ?_ | refine CT.seq1 ?_ | refine CT.block ?_ | refine CT.condT rfl ?_ | refine CT.condF rfl ?_ | refine CT.condD rfl (fun _ => ?_) (fun _ => ?_) | refine CT.condN rfl (fun _ => ?_) (fun _ => ?_) | refine CT.cond rfl (fun _ => ?_) (fun _ => ?_) | refine CT.skip ?_ | refine CT.exit ?_ | refine CT.ret ?_ | refine LT.nil ?_ | refine HT.nil1 ?_ | (refine LT.consT ?_; (first | refine T.box (e := 48) (cs := [.val _, .val _, .val _]) rfl rfl (by decide) rfl rfl ?_ | refine T.box (e := 30) (cs := [.val _, .val _]) rfl rfl (by decide) rfl rfl ?_)) | ((first | apply LT.cons1 | apply HT.cons1); (first | exact arm45_1); (try decide)))
    refine ⟨by first | exact .inl rfl | exact .inr rfl, _, (.cons (.tmp 4 (A := .val _) rfl (fun _ h => by cases h)) .nil), ?_, rfl⟩
    rw [en, hall]
    rfl
theorem g_r1Cmp (a b : A2) (ha : a.ok) (hb : b.ok) : Good Try.prog 59 [.val (.agg #[.int .u64 a.x, .int .u64 a.y]), .val (.agg #[.int .u64 b.x, .int .u64 b.y])] (.val (.int .i64 (aCompare a b))) :=
  Good.vals (args := [.agg #[.int .u64 a.x, .int .u64 a.y], .agg #[.int .u64 b.x, .int .u64 b.y]]) rfl fun w => c_r01Compare a.x a.y b.x b.y ha hb w
theorem arm48_1 {p : Prop} (h : p := by first | exact OpH.assign (v := .val _) rfl | exact OpH.assign (v := .sl _ _) rfl | exact OpH.assign (v := .row _ _ _ _) rfl | exact OpH.assign (v := .full _ _) rfl | exact OpH.assign (v := .ptr _ _) rfl | exact OpH.assign (v := .cptr _) rfl | exact OpH.assign (v := .cloB _ _) rfl | exact OpH.assign (v := .clo _ _) rfl | exact OpH.assign (v := .pr _) rfl | exact OpH.assign (v := .arow _) rfl | exact OpH.assign (v := .aptr _ _ _ _) rfl | exact OpH.assign (v := .asub _ _ _ _) rfl | exact OpH.assign (v := .tup _) rfl | exact OpH.fieldC (s := 48) (f := 0) (off := 0) rfl (by kernel_rfl) rfl | exact OpH.fieldB (s := 48) (f := 0) (off := 0) rfl (by kernel_rfl) rfl | exact loadC2 (t := 30) rfl (by kernel_rfl) | exact loadB2 (t := 30) rfl rfl (by kernel_rfl) rfl | exact OpH.move (v := .val _) rfl | exact OpH.move (v := .sl _ _) rfl | exact OpH.move (v := .row _ _ _ _) rfl | exact OpH.move (v := .full _ _) rfl | exact OpH.move (v := .ptr _ _) rfl | exact OpH.move (v := .cptr _) rfl | exact OpH.move (v := .cloB _ _) rfl | exact OpH.move (v := .clo _ _) rfl | exact OpH.move (v := .pr _) rfl | exact OpH.move (v := .arow _) rfl | exact OpH.move (v := .aptr _ _ _ _) rfl | exact OpH.move (v := .asub _ _ _ _) rfl | exact OpH.move (v := .tup _) rfl | exact OpH.bin rfl rfl (pb_eql_t (by first | omega | assumption)) | exact OpH.bin rfl rfl (pb_eql_f (by first | omega | assumption)) | exact OpH.bin rfl rfl (pb_eql) | exact OpH.fieldC (s := 48) (f := 1) (off := 2) rfl (by kernel_rfl) rfl | exact OpH.fieldB (s := 48) (f := 1) (off := 2) rfl (by kernel_rfl) rfl | exact OpH.loadC1 (t := 3) rfl (by kernel_rfl) rfl | exact OpH.loadB1 (t := 3) rfl rfl (by kernel_rfl) rfl | exact OpH.bin rfl rfl (pb_lss_t (by omega)) | exact OpH.bin rfl rfl (pb_lss_f (by omega)) | exact OpH.bin rfl rfl (pb_lss) | exact OpH.pick (b := true) (v := .val _) rfl rfl | exact OpH.pick (b := false) (v := .val _) rfl rfl | exact OpH.pick (b := true) (v := .sl _ _) rfl rfl | exact OpH.pick (b := false) (v := .sl _ _) rfl rfl | exact OpH.pick (b := true) (v := .row _ _ _ _) rfl rfl | exact OpH.pick (b := false) (v := .row _ _ _ _) rfl rfl | exact OpH.pick (b := true) (v := .full _ _) rfl rfl | exact OpH.pick (b := false) (v := .full _ _) rfl rfl | exact OpH.pickV rfl rfl rfl | exact OpH.bin rfl rfl (pb_gtr_t (by omega)) | exact OpH.bin rfl rfl (pb_gtr_f (by omega)) | exact OpH.bin rfl rfl (pb_gtr)) : p := h
set_option maxRecDepth 100000 in
set_option maxHeartbeats 2000000 in
theorem g_r2Cmp (p q : Pfx) (hp : p.a.ok) (hq : q.a.ok) : Good Try.prog 48 [.val (.agg #[.int .u64 p.a.x, .int .u64 p.a.y, .int .i64 p.len]), .val (.agg #[.int .u64 q.a.x, .int .u64 q.a.y, .int .i64 q.len])] (.val (.int .i64 (pCmp p q))) := by
  have gC := g_r1Cmp p.a q.a hp hq
  unfold pCmp
  generalize aCompare p.a q.a = c at gC ⊢
  refine Good.of_body (T := [(0, _), (1, _)]) Try.func48 rfl rfl rfl ?_
  intro K0 w0 hno
  by_cases h0 : c = 0
  · rw [if_pos h0]
    by_cases h1 : p.len < q.len
    · rw [if_pos h1]
      repeat' (first | refine CT.seqR ?_ | refine CT.region ?_ | refine CT.seq1 ?_ | refine CT.block ?_ | refine CT.condT rfl ?_ | refine CT.condF rfl ?_ | refine CT.condD rfl (fun _ => ?_) (fun _ => ?_) | refine CT.condN rfl (fun _ => ?_) (fun _ => ?_) | refine CT.cond rfl (fun _ => ?_) (fun _ => ?_) | refine CT.skip ?_ | refine CT.exit ?_ | refine CT.ret ?_ | refine LT.nil ?_ | refine HT.nil1 ?_ | (refine LT.consT ?_; (first | refine T.box (e := 48) (cs := [.val _, .val _, .val _]) rfl rfl (by decide) rfl rfl ?_)) | ((first | apply LT.cons1 | (apply LT.guard1; rfl; rfl; rfl; decide)); (first | exact OpH.callF Try.func59 rfl rfl rfl gC rfl | exact arm48_1); decide) | refine LT.skip1 rfl rfl rfl (by decide) (by decide) ?_ | refine LT.skip2 rfl rfl (by decide) (by decide) ?_ | refine LT.partD rfl rfl (fun _ => ?_) (fun _ => ?_) | refine LT.partN rfl rfl (fun _ => ?_) (fun _ => ?_) | (refine LT.part1 rfl rfl (fun h => ?_) (fun h => ?_); (fail_if_success exact absurd h (by decide)); rotate_left; (fail_if_success exact absurd h (by decide)); rotate_left))
      refine ⟨by first | exact .inl rfl | exact .inr rfl, _, (.cons (.tmp 4 (A := .val _) rfl (fun _ h => by cases h)) .nil), ?_, rfl⟩
      rfl
    · rw [if_neg h1]
      by_cases h2 : q.len < p.len
      · rw [if_pos h2]
        repeat' (first | refine CT.seqR ?_ | refine CT.region ?_ | refine CT.seq1 ?_ | refine CT.block ?_ | refine CT.condT rfl ?_ | refine CT.condF rfl ?_ | refine CT.condD rfl (fun _ => ?_) (fun _ => ?_) | refine CT.condN rfl (fun _ => ?_) (fun _ => ?_) | refine CT.cond rfl (fun _ => ?_) (fun _ => ?_) | refine CT.skip ?_ | refine CT.exit ?_ | refine CT.ret ?_ | refine LT.nil ?_ | refine HT.nil1 ?_ | (refine LT.consT ?_; (first | refine T.box (e := 48) (cs := [.val _, .val _, .val _]) rfl rfl (by decide) rfl rfl ?_)) | ((first | apply LT.cons1 | (apply LT.guard1; rfl; rfl; rfl; decide)); (first | exact OpH.callF Try.func59 rfl rfl rfl gC rfl | exact arm48_1); decide) | refine LT.skip1 rfl rfl rfl (by decide) (by decide) ?_ | refine LT.skip2 rfl rfl (by decide) (by decide) ?_ | refine LT.partD rfl rfl (fun _ => ?_) (fun _ => ?_) | refine LT.partN rfl rfl (fun _ => ?_) (fun _ => ?_) | (refine LT.part1 rfl rfl (fun h => ?_) (fun h => ?_); (fail_if_success exact absurd h (by decide)); rotate_left; (fail_if_success exact absurd h (by decide)); rotate_left))
        refine ⟨by first | exact .inl rfl | exact .inr rfl, _, (.cons (.tmp 4 (A := .val _) rfl (fun _ h => by cases h)) .nil), ?_, rfl⟩
        rfl
      · rw [if_neg h2]
        repeat' (first | refine CT.seqR ?_ | refine CT.region ?_ | refine CT.seq1 ?_ | refine CT.block ?_ | refine CT.condT rfl ?_ | refine CT.condF rfl ?_ | refine CT.condD rfl (fun _ => ?_) (fun _ => ?_) | refine CT.condN rfl (fun _ => ?_) (fun _ => ?_) | refine CT.cond rfl (fun _ => ?_) (fun _ => ?_) | refine CT.skip ?_ | refine CT.exit ?_ | refine CT.ret ?_ | refine LT.nil ?_ | refine HT.nil1 ?_ | (refine LT.consT ?_; (first | refine T.box (e := 48) (cs := [.val _, .val _, .val _]) rfl rfl (by decide) rfl rfl ?_)) | ((first | apply LT.cons1 | (apply LT.guard1; rfl; rfl; rfl; decide)); (first | exact OpH.callF Try.func59 rfl rfl rfl gC rfl | exact arm48_1); decide) | refine LT.skip1 rfl rfl rfl (by decide) (by decide) ?_ | refine LT.skip2 rfl rfl (by decide) (by decide) ?_ | refine LT.partD rfl rfl (fun _ => ?_) (fun _ => ?_) | refine LT.partN rfl rfl (fun _ => ?_) (fun _ => ?_) | (refine LT.part1 rfl rfl (fun h => ?_) (fun h => ?_); (fail_if_success exact absurd h (by decide)); rotate_left; (fail_if_success exact absurd h (by decide)); rotate_left))
        refine ⟨by first | exact .inl rfl | exact .inr rfl, _, (.cons (.tmp 4 (A := .val _) rfl (fun _ h => by cases h)) .nil), ?_, rfl⟩
        rw [h0]
        rfl
  · rw [if_neg h0]
    repeat' (first | refine CT.seqR ?_ | refine CT.region ?_ | refine CT.seq1 ?_ | refine CT.block ?_ | refine CT.condT rfl ?_ | refine CT.condF rfl ?_ | refine CT.condD rfl (fun _ => ?_) (fun _ => ?_) | refine CT.condN rfl (fun _ => ?_) (fun _ => ?_) | refine CT.cond rfl (fun _ => ?_) (fun _ => ?_) | refine CT.skip ?_ | refine CT.exit ?_ | refine CT.ret ?_ | refine LT.nil ?_ | refine HT.nil1 ?_ | (refine LT.consT ?_; (first | refine T.box (e := 48) (cs := [.val _, .val _, .val _]) rfl rfl (by decide) rfl rfl ?_)) | ((first | apply LT.cons1 | (apply LT.guard1; rfl; rfl; rfl; decide)); (first | exact OpH.callF Try.func59 rfl rfl rfl gC rfl | exact arm48_1); decide) | refine LT.skip1 rfl rfl rfl (by decide) (by decide) ?_ | refine LT.skip2 rfl rfl (by decide) (by decide) ?_ | refine LT.partD rfl rfl (fun _ => ?_) (fun _ => ?_) | refine LT.partN rfl rfl (fun _ => ?_) (fun _ => ?_) | (refine LT.part1 rfl rfl (fun h => ?_) (fun h => ?_); (fail_if_success exact absurd h (by decide)); rotate_left; (fail_if_success exact absurd h (by decide)); rotate_left))
    refine ⟨by first | exact .inl rfl | exact .inr rfl, _, (.cons (.tmp 4 (A := .val _) rfl (fun _ h => by cases h)) .nil), ?_, rfl⟩
    rfl
def rpRight (p : Pfx) : Bool := decide (0 ≤ p.len) && (decide (p.len ≤ 128) && allTo (fun i => decide ((i : Int) < p.len) || !abit p.a i) 128)
end Go.Proofs.Ytkfmammkbmhfaaa
