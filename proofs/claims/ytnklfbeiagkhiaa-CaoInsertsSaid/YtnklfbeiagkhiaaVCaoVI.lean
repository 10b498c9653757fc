/- ref13.Insert. -/
import Derived.Test.YtnklfbeiagkhiaaVCaoVA
namespace Go.Proofs.Ytnklfbeiagkhiaa
set_option linter.unusedSimpArgs false
set_option linter.unusedVariables false
open Go Go.RowKit Go.Shelf
theorem wrO_length (l : List Slt) (x : Ent) (w : List Int) : (wrO l x w).length = w.length := by
  cases w with
  | nil => rfl
  | cons a w => exact writesOf_length l x (by simp)
theorem wrO_ne (l : List Slt) (x : Ent) {w : List Int} (h : 0 < w.length) : wrO l x w = writesOf l x w := by
  cases w with
  | nil => simp at h
  | cons a w => rfl
attribute [local irreducible] OpH OpT LT CT HT Good
theorem g_r13end0 (l : List Slt) (x : Ent) (fr : Int) (hl : l.length ≤ 65536) : Good Try.prog 75 [.sl 7 (l.map encS), .val (.slice none 0 0), .val (.int .i64 fr), .val (.agg #[.int .u64 x.w.v.x, .int .u64 x.w.v.y, .int .u64 x.w.m.x, .int .u64 x.w.m.y, .int .i64 x.len, .int .i64 x.act])] (.row 42 127 8 ((writesOf l x [fr]).map encX)) := by
  have h := g_r13end l x [] fr (fun v h => (by cases h)) hl (by simp)
  unfold Good at h ⊢
  intro K w cargs hok hlen hrep
  refine h K w cargs hok hlen fun i A c hA hc => ?_
  match i with
  | 0 => exact hrep 0 A c hA hc
  | 1 =>
    have e := hrep 1 (.val (.slice none 0 0)) c rfl hc
    obtain rfl : A = .sl 1 [] := (Option.some.inj hA).symm
    exact ⟨none, 0, e, Nat.le_refl _, fun _ => rfl, by simp, fun i x h => by simp at h⟩
  | 2 => exact hrep 2 A c hA hc
  | 3 => exact hrep 3 A c hA hc
  | i + 4 => simp at hA
theorem arm21_1 {p : Prop} (h : p := by first | exact OpH.assign (v := .val _) rfl | exact OpH.assign (v := .sl _ _) rfl | exact OpH.assign (v := .row _ _ _ _) rfl | exact OpH.assign (v := .full _ _) rfl | exact OpH.assign (v := .ptr _ _) rfl | exact OpH.assign (v := .cptr _) rfl | exact OpH.assign (v := .cloB _ _) rfl | exact OpH.assign (v := .clo _ _) rfl | exact OpH.assign (v := .pr _) rfl | exact OpH.assign (v := .arow _) rfl | exact OpH.assign (v := .aptr _ _ _ _) rfl | exact OpH.assign (v := .asub _ _ _ _) rfl | exact OpH.assign (v := .tup _) rfl | exact loadC6 (t := 49) rfl (by kernel_rfl) | exact loadB6 (t := 49) rfl rfl (by kernel_rfl) rfl | exact OpH.un rfl un_not | exact OpH.un rfl (un_neg (by omega)) | exact OpH.move (v := .val _) rfl | exact OpH.move (v := .sl _ _) rfl | exact OpH.move (v := .row _ _ _ _) rfl | exact OpH.move (v := .full _ _) rfl | exact OpH.move (v := .ptr _ _) rfl | exact OpH.move (v := .cptr _) rfl | exact OpH.move (v := .cloB _ _) rfl | exact OpH.move (v := .clo _ _) rfl | exact OpH.move (v := .pr _) rfl | exact OpH.move (v := .arow _) rfl | exact OpH.move (v := .aptr _ _ _ _) rfl | exact OpH.move (v := .asub _ _ _ _) rfl | exact OpH.move (v := .tup _) rfl | exact OpH.extract (v := .val _) rfl rfl (fun _ h => by cases h) | exact OpH.extract (v := .sl _ _) rfl rfl (fun _ h => by cases h) | exact OpH.extract (v := .row _ _ _ _) rfl rfl (fun _ h => by cases h) | exact OpH.extract (v := .full _ _) rfl rfl (fun _ h => by cases h) | exact OpH.bin rfl rfl (pb_lss_t (by omega)) | exact OpH.bin rfl rfl (pb_lss_f (by omega)) | exact OpH.bin rfl rfl (pb_lss) | exact OpH.pick (b := true) (v := .val _) rfl rfl | exact OpH.pick (b := false) (v := .val _) rfl rfl | exact OpH.pick (b := true) (v := .sl _ _) rfl rfl | exact OpH.pick (b := false) (v := .sl _ _) rfl rfl | exact OpH.pick (b := true) (v := .row _ _ _ _) rfl rfl | exact OpH.pick (b := false) (v := .row _ _ _ _) rfl rfl | exact OpH.pick (b := true) (v := .full _ _) rfl rfl | exact OpH.pick (b := false) (v := .full _ _) rfl rfl | exact OpH.pickV rfl rfl rfl | exact OpH.indexS (t := 37) (k := 7) rfl slP rfl rfl (by kernel_rfl) (map_at bd) rfl | exact OpH.fieldC (s := 113) (f := 0) (off := 0) rfl (by kernel_rfl) rfl | exact OpH.fieldB (s := 113) (f := 0) (off := 0) rfl (by kernel_rfl) rfl | exact OpH.loadC1 (t := 4) rfl (by kernel_rfl) rfl | exact OpH.loadB1 (t := 4) rfl rfl (by kernel_rfl) rfl | exact OpH.bin rfl rfl (pb_inc (by omega)) | exact OpH.bin rfl rfl (pb_addN rfl (by omega)) | exact OpH.bin rfl rfl (pb_add (by omega)) | exact OpH.bin rfl rfl (pb_addw) | exact OpH.lenM (t := 43) rfl (.sl _ _) (by kernel_rfl) | exact OpH.lenM (t := 43) rfl (.row _ _ _ _) (by kernel_rfl) | exact OpH.lenM (t := 43) rfl (.full _ _) (by kernel_rfl) | exact OpH.len (t := 43) rfl slP (by kernel_rfl) | exact OpH.lenNil (t := 43) rfl (by kernel_rfl) | exact OpH.bin rfl rfl (pb_eql_t (by first | omega | assumption)) | exact OpH.bin rfl rfl (pb_eql_f (by first | omega | assumption)) | exact OpH.bin rfl rfl (pb_eql) | exact OpH.bin rfl rfl (pb_gtr_t (by omega)) | exact OpH.bin rfl rfl (pb_gtr_f (by omega)) | exact OpH.bin rfl rfl (pb_gtr)) : p := h
set_option maxRecDepth 100000 in
set_option maxHeartbeats 4000000 in
theorem g_r13Insert (l : List Slt) (x : Ent) (hok : ∀ s ∈ l, s.e.w.ok) (hx : x.w.ok) (hl : l.length ≤ 60000) : Good Try.prog 21 [.sl 7 (l.map encS), .val (.agg #[.int .u64 x.w.v.x, .int .u64 x.w.v.y, .int .u64 x.w.m.x, .int .u64 x.w.m.y, .int .i64 x.len, .int .i64 x.act])] (.tup [.sl 8 ((insC l x).1.map encX), .val (.int .i64 (insC l x).2)]) := by
  have gR := g_r8Right x hx
  have gG := g_r13Gap l x hok hx (by omega)
  have gE := g_r8Entries l (by omega)
  have gO := g_r5Ordered (entsS l) (fun y hy => by
    unfold entsS at hy
    obtain ⟨s, hs, rfl⟩ := List.mem_map.1 hy
    exact hok s (List.mem_filter.1 hs).1)
  have hfb := gapFrom_bound l x
  have htb := gapTo_bound l x
  have hvt : gapTo l x < l.length → (nth l (gapTo l x)).valid = true := fun h => by
    have := (loF_spec l x (Nat.zero_le _)).2.2.2 h
    unfold loP at this
    rw [Bool.and_eq_true] at this
    exact this.1
  have hvf : 0 < (gapFrom l x).toNat → (nth l ((gapFrom l x).toNat - 1)).valid = true := fun h => by
    have hq : gapFrom l x = lastTo (hiP l x) l.length + 1 := rfl
    have := (lastTo_spec (hiP l x) l.length).2 (by omega)
    rw [show (lastTo (hiP l x) l.length).toNat = (gapFrom l x).toNat - 1 by omega] at this
    unfold hiP at this
    rw [Bool.and_eq_true] at this
    exact this.1
  have gB := g_r13Below l x (gapTo l x) htb hvt hok hl
  have gA := g_r13Above l x (gapFrom l x).toNat (by omega) hvf hok hl
  rw [Int.toNat_of_nonneg hfb.1] at gA
  have hins : insC l x = insC l x := rfl
  conv at hins => rhs; unfold insC
  generalize insC l x = r at hins ⊢
  cases hr : eRight x with
  | false =>
    rw [if_pos hr] at hins
    rw [hins]
    rw [hr] at gR
    refine Good.of_body (T := [(0, _), (1, _)]) Try.func21 rfl rfl rfl ?_
    intro K0 w0 hno
    repeat' (first | (refine CT.sub (S' := ⟨[(4, .sl 8 (([] : List Wrt).map encX)), (5, .val (.int .i64 1))], [], []⟩) ?_ (CT.ret ?_)) | refine CT.seqR ?_ | refine CT.region ?_ | refine CT.seq1 ?_ | refine CT.block ?_ | refine CT.condT rfl ?_ | refine CT.condF rfl ?_ | refine CT.condD rfl (fun _ => ?_) (fun _ => ?_) | refine CT.condN rfl (fun _ => ?_) (fun _ => ?_) | refine CT.cond rfl (fun _ => ?_) (fun _ => ?_) | refine CT.skip ?_ | refine CT.exit ?_ | refine CT.ret ?_ | refine CT.goto ?_ | refine CT.label ?_ | refine LT.nil ?_ | refine HT.nil1 ?_ | (refine LT.consT ?_; (first | refine T.box (e := 49) (cs := [.val _, .val _, .val _, .val _, .val _, .val _]) rfl rfl (by decide) rfl rfl ?_)) | ((first | apply LT.cons1 | (apply LT.guard1; rfl; rfl; rfl; decide)); (first | exact OpH.callF Try.func74 rfl rfl rfl gR rfl | exact arm21_1); decide) | refine LT.skip1 rfl rfl rfl (by decide) (by decide) ?_ | refine LT.skip2 rfl rfl (by decide) (by decide) ?_ | refine LT.partD rfl rfl (fun _ => ?_) (fun _ => ?_) | refine LT.partN rfl rfl (fun _ => ?_) (fun _ => ?_) | (refine LT.part1 rfl rfl (fun h => ?_) (fun h => ?_); (fail_if_success exact absurd h (by decide)); rotate_left; (fail_if_success exact absurd h (by decide)); rotate_left))
    · (apply Sub.mk; (focus (repeat (first | exact .nil | refine .other (.keep rfl rfl) ?_ | refine .other (.aref rfl rfl rfl) ?_ | refine .other (.val rfl (by first | rfl | (congr 1; first | omega | assumption | (symm; assumption)) | (simp; omega))) ?_ | refine .other .dead ?_ | refine .other (.sl rfl (.row _ _ _ _) rfl) ?_ | refine .other (.sl rfl (.sl _ _) rfl) ?_ | refine .other (.sl rfl (.full _ _) rfl) ?_ | refine .other (.slNil rfl rfl) ?_ | refine .rowNil rfl rfl rfl ?_ | refine .row rfl (by first | rfl | assumption | (rw [← List.map_append]; first | done | rfl | congr 1)) rfl rfl ?_))); (focus (repeat (first | exact .nil | refine KeepB.same rfl rfl rfl ?_ | refine KeepB.sameA rfl rfl rfl ?_))); (focus (repeat (first | exact .nil | refine KeepA.cons rfl (by first | rfl | assumption | exact List.map_set | exact List.map_set.symm | (rw [← List.map_append]; first | done | rfl | congr 1) | (congr 1; first | omega | assumption)) ?_))))
    · refine ⟨by first | exact .inl rfl | exact .inr rfl, _, (.cons (.tmp 4 (A := .sl _ _) rfl (fun _ h => by cases h)) (.cons (.tmp 5 (A := .val _) rfl (fun _ h => by cases h)) .nil)), ?_, rfl⟩
      rfl
  | true =>
    rw [if_neg (by rw [hr]; decide)] at hins
    rw [hr] at gR
    by_cases hk : ordered (entsS l) = false ∨ (gapTo l x : Int) < gapFrom l x
    · rw [if_pos hk] at hins
      rw [hins]
      refine Good.of_body (T := [(0, _), (1, _)]) Try.func21 rfl rfl rfl ?_
      intro K0 w0 hno
      cases ho : ordered (entsS l) with
      | false =>
        rw [ho] at gO
        repeat' (first | (refine LT.consT ?_; refine T.callRow Try.func28 rfl rfl rfl gE (by decide) rfl ?_) | (refine CT.sub (S' := ⟨[(4, .sl 8 (([] : List Wrt).map encX)), (5, .val (.int .i64 7))], [], []⟩) ?_ (CT.ret ?_)) | refine CT.seqR ?_ | refine CT.region ?_ | refine CT.seq1 ?_ | refine CT.block ?_ | refine CT.condT rfl ?_ | refine CT.condF rfl ?_ | refine CT.condD rfl (fun _ => ?_) (fun _ => ?_) | refine CT.condN rfl (fun _ => ?_) (fun _ => ?_) | refine CT.cond rfl (fun _ => ?_) (fun _ => ?_) | refine CT.skip ?_ | refine CT.exit ?_ | refine CT.ret ?_ | refine CT.goto ?_ | refine CT.label ?_ | refine LT.nil ?_ | refine HT.nil1 ?_ | (refine LT.consT ?_; (first | refine T.box (e := 49) (cs := [.val _, .val _, .val _, .val _, .val _, .val _]) rfl rfl (by decide) rfl rfl ?_)) | ((first | apply LT.cons1 | (apply LT.guard1; rfl; rfl; rfl; decide)); (first | exact OpH.callF Try.func74 rfl rfl rfl gR rfl | exact OpH.callF Try.func26 rfl rfl rfl gG rfl | exact OpH.callF Try.func27 rfl rfl rfl gO rfl | exact arm21_1); decide) | refine LT.skip1 rfl rfl rfl (by decide) (by decide) ?_ | refine LT.skip2 rfl rfl (by decide) (by decide) ?_ | refine LT.partD rfl rfl (fun _ => ?_) (fun _ => ?_) | refine LT.partN rfl rfl (fun _ => ?_) (fun _ => ?_) | (refine LT.part1 rfl rfl (fun h => ?_) (fun h => ?_); (fail_if_success exact absurd h (by decide)); rotate_left; (fail_if_success exact absurd h (by decide)); rotate_left))
        · (apply Sub.mk; (focus (repeat (first | exact .nil | refine .other (.keep rfl rfl) ?_ | refine .other (.aref rfl rfl rfl) ?_ | refine .other (.val rfl (by first | rfl | (congr 1; first | omega | assumption | (symm; assumption)) | (simp; omega))) ?_ | refine .other .dead ?_ | refine .other (.sl rfl (.row _ _ _ _) rfl) ?_ | refine .other (.sl rfl (.sl _ _) rfl) ?_ | refine .other (.sl rfl (.full _ _) rfl) ?_ | refine .other (.slNil rfl rfl) ?_ | refine .rowNil rfl rfl rfl ?_ | refine .row rfl (by first | rfl | assumption | (rw [← List.map_append]; first | done | rfl | congr 1)) rfl rfl ?_))); (focus (repeat (first | exact .nil | refine KeepB.same rfl rfl rfl ?_ | refine KeepB.sameA rfl rfl rfl ?_))); (focus (repeat (first | exact .nil | refine KeepA.cons rfl (by first | rfl | assumption | exact List.map_set | exact List.map_set.symm | (rw [← List.map_append]; first | done | rfl | congr 1) | (congr 1; first | omega | assumption)) ?_))))
        · refine ⟨by first | exact .inl rfl | exact .inr rfl, _, (.cons (.tmp 4 (A := .sl _ _) rfl (fun _ h => by cases h)) (.cons (.tmp 5 (A := .val _) rfl (fun _ h => by cases h)) .nil)), ?_, rfl⟩
          rfl
      | true =>
        rw [ho] at gO
        have hlt : (gapTo l x : Int) < gapFrom l x := by
          rcases hk with h | h
          · rw [ho] at h; cases h
          · exact h
        repeat' (first | (refine LT.consT ?_; refine T.callRow Try.func28 rfl rfl rfl gE (by decide) rfl ?_) | (refine CT.sub (S' := ⟨[(4, .sl 8 (([] : List Wrt).map encX)), (5, .val (.int .i64 7))], [], []⟩) ?_ (CT.ret ?_)) | refine CT.seqR ?_ | refine CT.region ?_ | refine CT.seq1 ?_ | refine CT.block ?_ | refine CT.condT rfl ?_ | refine CT.condF rfl ?_ | refine CT.condD rfl (fun _ => ?_) (fun _ => ?_) | refine CT.condN rfl (fun _ => ?_) (fun _ => ?_) | refine CT.cond rfl (fun _ => ?_) (fun _ => ?_) | refine CT.skip ?_ | refine CT.exit ?_ | refine CT.ret ?_ | refine CT.goto ?_ | refine CT.label ?_ | refine LT.nil ?_ | refine HT.nil1 ?_ | (refine LT.consT ?_; (first | refine T.box (e := 49) (cs := [.val _, .val _, .val _, .val _, .val _, .val _]) rfl rfl (by decide) rfl rfl ?_)) | ((first | apply LT.cons1 | (apply LT.guard1; rfl; rfl; rfl; decide)); (first | exact OpH.callF Try.func74 rfl rfl rfl gR rfl | exact OpH.callF Try.func26 rfl rfl rfl gG rfl | exact OpH.callF Try.func27 rfl rfl rfl gO rfl | exact arm21_1); decide) | refine LT.skip1 rfl rfl rfl (by decide) (by decide) ?_ | refine LT.skip2 rfl rfl (by decide) (by decide) ?_ | refine LT.partD rfl rfl (fun _ => ?_) (fun _ => ?_) | refine LT.partN rfl rfl (fun _ => ?_) (fun _ => ?_) | (refine LT.part1 rfl rfl (fun h => ?_) (fun h => ?_); (fail_if_success exact absurd h (by decide)); rotate_left; (fail_if_success exact absurd h (by decide)); rotate_left))
        · (apply Sub.mk; (focus (repeat (first | exact .nil | refine .other (.keep rfl rfl) ?_ | refine .other (.aref rfl rfl rfl) ?_ | refine .other (.val rfl (by first | rfl | (congr 1; first | omega | assumption | (symm; assumption)) | (simp; omega))) ?_ | refine .other .dead ?_ | refine .other (.sl rfl (.row _ _ _ _) rfl) ?_ | refine .other (.sl rfl (.sl _ _) rfl) ?_ | refine .other (.sl rfl (.full _ _) rfl) ?_ | refine .other (.slNil rfl rfl) ?_ | refine .rowNil rfl rfl rfl ?_ | refine .row rfl (by first | rfl | assumption | (rw [← List.map_append]; first | done | rfl | congr 1)) rfl rfl ?_))); (focus (repeat (first | exact .nil | refine KeepB.same rfl rfl rfl ?_ | refine KeepB.sameA rfl rfl rfl ?_))); (focus (repeat (first | exact .nil | refine KeepA.cons rfl (by first | rfl | assumption | exact List.map_set | exact List.map_set.symm | (rw [← List.map_append]; first | done | rfl | congr 1) | (congr 1; first | omega | assumption)) ?_))))
        · refine ⟨by first | exact .inl rfl | exact .inr rfl, _, (.cons (.tmp 4 (A := .sl _ _) rfl (fun _ h => by cases h)) (.cons (.tmp 5 (A := .val _) rfl (fun _ h => by cases h)) .nil)), ?_, rfl⟩
          rfl
    · rw [if_neg hk] at hins
      have ho : ordered (entsS l) = true := by
        cases h : ordered (entsS l) with
        | true => rfl
        | false => exact absurd (.inl h) hk
      have hft : gapFrom l x ≤ gapTo l x := by
        refine Classical.byContradiction fun h => hk (.inr (by omega))
      rw [ho] at gO
      clear hk ho hvt hvf
      have hl1 := wrO_length l x (wayB l (gapTo l x))
      have hl2 := wrO_length l x (wayA l (gapFrom l x - 1))
      have hn1 : 0 < (wayB l (gapTo l x)).length → wrO l x (wayB l (gapTo l x)) = writesOf l x (wayB l (gapTo l x)) := wrO_ne l x
      have hn2 : 0 < (wayA l (gapFrom l x - 1)).length → wrO l x (wayA l (gapFrom l x - 1)) = writesOf l x (wayA l (gapFrom l x - 1)) := wrO_ne l x
      have hle1 : (wayB l (gapTo l x)).length ≤ l.length + 1 + 1 := wayG_length _ _
      have hle2 : (wayA l (gapFrom l x - 1)).length ≤ l.length + 1 + 1 := wayG_length _ _
      generalize wrO l x (wayB l (gapTo l x)) = WB at gB hl1 hn1
      generalize wrO l x (wayA l (gapFrom l x - 1)) = WA at gA hl2 hn2
      generalize wayB l (gapTo l x) = wb at hins hl1 hn1 hle1
      generalize wayA l (gapFrom l x - 1) = wa at hins hl2 hn2 hle2
      obtain ⟨gf, hgf⟩ : ∃ gf : Nat, gapFrom l x = gf := ⟨(gapFrom l x).toNat, by omega⟩
      rw [hgf] at hins gG gA hfb hft
      rw [Int.toNat_natCast] at hins
      generalize gapTo l x = gt at hins gG gB htb hft
      refine Good.of_body (T := [(0, _), (1, _)]) Try.func21 rfl rfl rfl ?_
      intro K0 w0 hno
      repeat' (first | (refine LT.consT ?_; refine T.callRow Try.func28 rfl rfl rfl gE (by decide) rfl ?_) | refine CT.seqR ?_ | refine CT.region ?_ | refine CT.seq1 ?_ | refine CT.block ?_ | refine CT.condT rfl ?_ | refine CT.condF rfl ?_ | refine CT.condD rfl (fun _ => ?_) (fun _ => ?_) | refine CT.condN rfl (fun _ => ?_) (fun _ => ?_) | refine CT.cond rfl (fun _ => ?_) (fun _ => ?_) | refine CT.skip ?_ | refine CT.exit ?_ | refine CT.ret ?_ | refine CT.goto ?_ | refine CT.label ?_ | refine LT.nil ?_ | refine HT.nil1 ?_ | (refine LT.consT ?_; (first | refine T.box (e := 49) (cs := [.val _, .val _, .val _, .val _, .val _, .val _]) rfl rfl (by decide) rfl rfl ?_)) | ((first | apply LT.cons1 | (apply LT.guard1; rfl; rfl; rfl; decide)); (first | exact OpH.callF Try.func74 rfl rfl rfl gR rfl | exact OpH.callF Try.func26 rfl rfl rfl gG rfl | exact OpH.callF Try.func27 rfl rfl rfl gO rfl | exact arm21_1); decide) | refine LT.skip1 rfl rfl rfl (by decide) (by decide) ?_ | refine LT.skip2 rfl rfl (by decide) (by decide) ?_ | refine LT.partD rfl rfl (fun _ => ?_) (fun _ => ?_) | refine LT.partN rfl rfl (fun _ => ?_) (fun _ => ?_) | (refine LT.part1 rfl rfl (fun h => ?_) (fun h => ?_); (fail_if_success exact absurd h (by decide)); rotate_left; (fail_if_success exact absurd h (by decide)); rotate_left))
      refine CT.loopX (fun i : Nat => (⟨[(0, .sl 7 (l.map encS)), (3, .ptr 3 0), (6, .val (.int .i64 gf)), (7, .val (.int .i64 gt)), (8, .val (.int .i64 i))], [(3, (encE x).map AV.val)], []⟩ : St))
        (fun i => gf ≤ i ∧ i ≤ gt ∧ emFirst l gf i = -1) (fun i => gt - i) gf ?_ ⟨by omega, by omega, emFirst_start l gf⟩ ?_
      · (apply Sub.mk; (focus (repeat (first | exact .nil | refine .other (.keep rfl rfl) ?_ | refine .other (.aref rfl rfl rfl) ?_ | refine .other (.val rfl (by first | rfl | (congr 1; first | omega | assumption | (symm; assumption)) | (simp; omega))) ?_ | refine .other .dead ?_ | refine .other (.sl rfl (.row _ _ _ _) rfl) ?_ | refine .other (.sl rfl (.sl _ _) rfl) ?_ | refine .other (.sl rfl (.full _ _) rfl) ?_ | refine .other (.slNil rfl rfl) ?_ | refine .rowNil rfl rfl rfl ?_ | refine .row rfl (by first | rfl | assumption | (rw [← List.map_append]; first | done | rfl | congr 1)) rfl rfl ?_))); (focus (repeat (first | exact .nil | refine KeepB.same rfl rfl rfl ?_ | refine KeepB.sameA rfl rfl rfl ?_))); (focus (repeat (first | exact .nil | refine KeepA.cons rfl (by first | rfl | assumption | exact List.map_set | exact List.map_set.symm | (rw [← List.map_append]; first | done | rfl | congr 1) | (congr 1; first | omega | assumption)) ?_))))
      rintro i ⟨h1, h2, h3⟩
      by_cases hlt : i < gt
      · have hil : i < l.length := by omega
        have hst := emFirst_step l h1
        cases hs : l[i] with
        | mk v e =>
          have hat := slot_at hil hs
          rw [nth_is hil hs, h3] at hst
          cases v with
          | true =>
            rw [if_pos (.inl rfl)] at hst
            repeat' (first | refine CT.seqR ?_ | refine CT.region ?_ | refine CT.seq1 ?_ | refine CT.block ?_ | refine CT.condT rfl ?_ | refine CT.condF rfl ?_ | refine CT.condD rfl (fun _ => ?_) (fun _ => ?_) | refine CT.condN rfl (fun _ => ?_) (fun _ => ?_) | refine CT.cond rfl (fun _ => ?_) (fun _ => ?_) | refine CT.skip ?_ | refine CT.exit ?_ | refine CT.ret ?_ | refine CT.goto ?_ | refine CT.label ?_ | refine LT.nil ?_ | refine HT.nil1 ?_ | (refine LT.consT ?_; (first | refine T.box (e := 49) (cs := [.val _, .val _, .val _, .val _, .val _, .val _]) rfl rfl (by decide) rfl rfl ?_)) | ((first | apply LT.cons1 | (apply LT.guard1; rfl; rfl; rfl; decide)); (first | exact OpH.indexS (t := 37) (k := 7) (j := i) rfl slP rfl rfl (by kernel_rfl) hat rfl | exact arm21_1); decide) | refine LT.skip1 rfl rfl rfl (by decide) (by decide) ?_ | refine LT.skip2 rfl rfl (by decide) (by decide) ?_ | refine LT.partD rfl rfl (fun _ => ?_) (fun _ => ?_) | refine LT.partN rfl rfl (fun _ => ?_) (fun _ => ?_) | (refine LT.part1 rfl rfl (fun h => ?_) (fun h => ?_); (fail_if_success exact absurd h (by decide)); rotate_left; (fail_if_success exact absurd h (by decide)); rotate_left))
            refine ⟨i + 1, ⟨by omega, by omega, hst⟩, by omega, ?_⟩
            (apply Sub.mk; (focus (repeat (first | exact .nil | refine .other (.keep rfl rfl) ?_ | refine .other (.aref rfl rfl rfl) ?_ | refine .other (.val rfl (by first | rfl | (congr 1; first | omega | assumption | (symm; assumption)) | (simp; omega))) ?_ | refine .other .dead ?_ | refine .other (.sl rfl (.row _ _ _ _) rfl) ?_ | refine .other (.sl rfl (.sl _ _) rfl) ?_ | refine .other (.sl rfl (.full _ _) rfl) ?_ | refine .other (.slNil rfl rfl) ?_ | refine .rowNil rfl rfl rfl ?_ | refine .row rfl (by first | rfl | assumption | (rw [← List.map_append]; first | done | rfl | congr 1)) rfl rfl ?_))); (focus (repeat (first | exact .nil | refine KeepB.same rfl rfl rfl ?_ | refine KeepB.sameA rfl rfl rfl ?_))); (focus (repeat (first | exact .nil | refine KeepA.cons rfl (by first | rfl | assumption | exact List.map_set | exact List.map_set.symm | (rw [← List.map_append]; first | done | rfl | congr 1) | (congr 1; first | omega | assumption)) ?_))))
          | false =>
            rw [if_neg (by simp)] at hst
            have hem : emFirst l gf gt = i := by
              rcases emFirst_spec l (show gf ≤ gt by omega) with ⟨g1, g2⟩ | ⟨r', g1, g2, g3, g4, g5⟩
              · have := g2 i h1 hlt
                rw [nth_is hil hs] at this; cases this
              · rw [g1]
                congr 1
                rcases emFirst_spec l h1 with ⟨_, q2⟩ | ⟨q, q1, _⟩
                · rcases Nat.lt_trichotomy r' i with c | c | c
                  · rw [q2 r' g2 c] at g4; cases g4
                  · exact c
                  · have := g5 i h1 c
                    rw [nth_is hil hs] at this; cases this
                · rw [q1] at h3; omega
            rw [hem, if_pos (by omega)] at hins
            have gN := g_r13end0 l x i (by omega)
            rw [hins]
            dsimp only
            generalize writesOf l x [(i : Int)] = ws at gN ⊢
            repeat' (first | (refine LT.consT ?_; refine T.callRow Try.func75 rfl rfl rfl gN (by decide) rfl ?_) | (refine CT.sub (S' := ⟨[(4, .sl 8 (ws.map encX)), (5, .val (.int .i64 0))], [], []⟩) ?_ (CT.ret ?_)) | refine CT.seqR ?_ | refine CT.region ?_ | refine CT.seq1 ?_ | refine CT.block ?_ | refine CT.condT rfl ?_ | refine CT.condF rfl ?_ | refine CT.condD rfl (fun _ => ?_) (fun _ => ?_) | refine CT.condN rfl (fun _ => ?_) (fun _ => ?_) | refine CT.cond rfl (fun _ => ?_) (fun _ => ?_) | refine CT.skip ?_ | refine CT.exit ?_ | refine CT.ret ?_ | refine CT.goto ?_ | refine CT.label ?_ | refine LT.nil ?_ | refine HT.nil1 ?_ | (refine LT.consT ?_; (first | refine T.box (e := 49) (cs := [.val _, .val _, .val _, .val _, .val _, .val _]) rfl rfl (by decide) rfl rfl ?_)) | ((first | apply LT.cons1 | (apply LT.guard1; rfl; rfl; rfl; decide)); (first | exact OpH.indexS (t := 37) (k := 7) (j := i) rfl slP rfl rfl (by kernel_rfl) hat rfl | exact arm21_1); decide) | refine LT.skip1 rfl rfl rfl (by decide) (by decide) ?_ | refine LT.skip2 rfl rfl (by decide) (by decide) ?_ | refine LT.partD rfl rfl (fun _ => ?_) (fun _ => ?_) | refine LT.partN rfl rfl (fun _ => ?_) (fun _ => ?_) | (refine LT.part1 rfl rfl (fun h => ?_) (fun h => ?_); (fail_if_success exact absurd h (by decide)); rotate_left; (fail_if_success exact absurd h (by decide)); rotate_left))
            · (apply Sub.mk; (focus (repeat (first | exact .nil | refine .other (.keep rfl rfl) ?_ | refine .other (.aref rfl rfl rfl) ?_ | refine .other (.val rfl (by first | rfl | (congr 1; first | omega | assumption | (symm; assumption)) | (simp; omega))) ?_ | refine .other .dead ?_ | refine .other (.sl rfl (.row _ _ _ _) rfl) ?_ | refine .other (.sl rfl (.sl _ _) rfl) ?_ | refine .other (.sl rfl (.full _ _) rfl) ?_ | refine .other (.slNil rfl rfl) ?_ | refine .rowNil rfl rfl rfl ?_ | refine .row rfl (by first | rfl | assumption | (rw [← List.map_append]; first | done | rfl | congr 1)) rfl rfl ?_))); (focus (repeat (first | exact .nil | refine KeepB.same rfl rfl rfl ?_ | refine KeepB.sameA rfl rfl rfl ?_))); (focus (repeat (first | exact .nil | refine KeepA.cons rfl (by first | rfl | assumption | exact List.map_set | exact List.map_set.symm | (rw [← List.map_append]; first | done | rfl | congr 1) | (congr 1; first | omega | assumption)) ?_))))
            · refine ⟨by first | exact .inl rfl | exact .inr rfl, _, (.cons (.tmp 4 (A := .sl _ _) rfl (fun _ h => by cases h)) (.cons (.tmp 5 (A := .val _) rfl (fun _ h => by cases h)) .nil)), ?_, rfl⟩
              rfl
      · obtain rfl : i = gt := by omega
        rw [h3, if_neg (by omega)] at hins
        by_cases hz : wb.length + wa.length = 0
        · rw [if_pos hz] at hins
          rw [hins]
          have c1 : WB.length = 0 := by omega
          have c2 : WA.length = 0 := by omega
          repeat' (first | (refine CT.sub (S' := ⟨[(4, .sl 8 (([] : List Wrt).map encX)), (5, .val (.int .i64 3))], [], []⟩) ?_ (CT.ret ?_)) | refine CT.seqR ?_ | refine CT.region ?_ | refine CT.seq1 ?_ | refine CT.block ?_ | refine CT.condT rfl ?_ | refine CT.condF rfl ?_ | refine CT.condD rfl (fun _ => ?_) (fun _ => ?_) | refine CT.condN rfl (fun _ => ?_) (fun _ => ?_) | refine CT.cond rfl (fun _ => ?_) (fun _ => ?_) | refine CT.skip ?_ | refine CT.exit ?_ | refine CT.ret ?_ | refine CT.goto ?_ | refine CT.label ?_ | refine LT.nil ?_ | refine HT.nil1 ?_ | (refine LT.consT ?_; (first | refine T.box (e := 49) (cs := [.val _, .val _, .val _, .val _, .val _, .val _]) rfl rfl (by decide) rfl rfl ?_)) | ((first | apply LT.cons1 | (apply LT.guard1; rfl; rfl; rfl; decide)); (first | exact OpH.callF Try.func76 rfl rfl rfl gB rfl | exact OpH.callF Try.func77 rfl rfl rfl gA rfl | exact arm21_1); decide) | refine LT.skip1 rfl rfl rfl (by decide) (by decide) ?_ | refine LT.skip2 rfl rfl (by decide) (by decide) ?_ | refine LT.partD rfl rfl (fun _ => ?_) (fun _ => ?_) | refine LT.partN rfl rfl (fun _ => ?_) (fun _ => ?_) | (refine LT.part1 rfl rfl (fun h => ?_) (fun h => ?_); (fail_if_success exact absurd h (by decide)); rotate_left; (fail_if_success exact absurd h (by decide)); rotate_left))
          · (apply Sub.mk; (focus (repeat (first | exact .nil | refine .other (.keep rfl rfl) ?_ | refine .other (.aref rfl rfl rfl) ?_ | refine .other (.val rfl (by first | rfl | (congr 1; first | omega | assumption | (symm; assumption)) | (simp; omega))) ?_ | refine .other .dead ?_ | refine .other (.sl rfl (.row _ _ _ _) rfl) ?_ | refine .other (.sl rfl (.sl _ _) rfl) ?_ | refine .other (.sl rfl (.full _ _) rfl) ?_ | refine .other (.slNil rfl rfl) ?_ | refine .rowNil rfl rfl rfl ?_ | refine .row rfl (by first | rfl | assumption | (rw [← List.map_append]; first | done | rfl | congr 1)) rfl rfl ?_))); (focus (repeat (first | exact .nil | refine KeepB.same rfl rfl rfl ?_ | refine KeepB.sameA rfl rfl rfl ?_))); (focus (repeat (first | exact .nil | refine KeepA.cons rfl (by first | rfl | assumption | exact List.map_set | exact List.map_set.symm | (rw [← List.map_append]; first | done | rfl | congr 1) | (congr 1; first | omega | assumption)) ?_))))
          · refine ⟨by first | exact .inl rfl | exact .inr rfl, _, (.cons (.tmp 4 (A := .sl _ _) rfl (fun _ h => by cases h)) (.cons (.tmp 5 (A := .val _) rfl (fun _ h => by cases h)) .nil)), ?_, rfl⟩
            rfl
        · rw [if_neg hz] at hins
          have hcase : (WB.length = 0 ∧ ¬ WA.length = 0) ∨ (¬ WB.length = 0 ∧ 0 < WA.length ∧ WA.length < WB.length) ∨ (¬ WB.length = 0 ∧ 0 < WA.length ∧ ¬ WA.length < WB.length) ∨ (¬ WB.length = 0 ∧ ¬ 0 < WA.length) := by omega
          rcases hcase with ⟨c1, c2⟩ | ⟨c1, c2, c3⟩ | ⟨c1, c2, c3⟩ | ⟨c1, c2⟩
          · rw [if_pos (.inl (by omega)), ← hn2 (by omega)] at hins
            rw [hins]
            repeat' (first | refine CT.seqR ?_ | refine CT.region ?_ | refine CT.seq1 ?_ | refine CT.block ?_ | refine CT.condT rfl ?_ | refine CT.condF rfl ?_ | refine CT.condD rfl (fun _ => ?_) (fun _ => ?_) | refine CT.condN rfl (fun _ => ?_) (fun _ => ?_) | refine CT.cond rfl (fun _ => ?_) (fun _ => ?_) | refine CT.skip ?_ | refine CT.exit ?_ | refine CT.ret ?_ | refine CT.goto ?_ | refine CT.label ?_ | refine LT.nil ?_ | refine HT.nil1 ?_ | (refine LT.consT ?_; (first | refine T.box (e := 49) (cs := [.val _, .val _, .val _, .val _, .val _, .val _]) rfl rfl (by decide) rfl rfl ?_)) | ((first | apply LT.cons1 | (apply LT.guard1; rfl; rfl; rfl; decide)); (first | exact OpH.callF Try.func76 rfl rfl rfl gB rfl | exact OpH.callF Try.func77 rfl rfl rfl gA rfl | exact arm21_1); decide) | refine LT.skip1 rfl rfl rfl (by decide) (by decide) ?_ | refine LT.skip2 rfl rfl (by decide) (by decide) ?_ | refine LT.partD rfl rfl (fun _ => ?_) (fun _ => ?_) | refine LT.partN rfl rfl (fun _ => ?_) (fun _ => ?_) | (refine LT.part1 rfl rfl (fun h => ?_) (fun h => ?_); (fail_if_success exact absurd h (by decide)); rotate_left; (fail_if_success exact absurd h (by decide)); rotate_left))
            refine ⟨by first | exact .inl rfl | exact .inr rfl, _, (.cons (.tmp 4 (A := .sl _ _) rfl (fun _ h => by cases h)) (.cons (.tmp 5 (A := .val _) rfl (fun _ h => by cases h)) .nil)), ?_, rfl⟩
            rfl
          · rw [if_pos (.inr ⟨by omega, by omega⟩), ← hn2 (by omega)] at hins
            rw [hins]
            repeat' (first | refine CT.seqR ?_ | refine CT.region ?_ | refine CT.seq1 ?_ | refine CT.block ?_ | refine CT.condT rfl ?_ | refine CT.condF rfl ?_ | refine CT.condD rfl (fun _ => ?_) (fun _ => ?_) | refine CT.condN rfl (fun _ => ?_) (fun _ => ?_) | refine CT.cond rfl (fun _ => ?_) (fun _ => ?_) | refine CT.skip ?_ | refine CT.exit ?_ | refine CT.ret ?_ | refine CT.goto ?_ | refine CT.label ?_ | refine LT.nil ?_ | refine HT.nil1 ?_ | (refine LT.consT ?_; (first | refine T.box (e := 49) (cs := [.val _, .val _, .val _, .val _, .val _, .val _]) rfl rfl (by decide) rfl rfl ?_)) | ((first | apply LT.cons1 | (apply LT.guard1; rfl; rfl; rfl; decide)); (first | exact OpH.callF Try.func76 rfl rfl rfl gB rfl | exact OpH.callF Try.func77 rfl rfl rfl gA rfl | exact arm21_1); decide) | refine LT.skip1 rfl rfl rfl (by decide) (by decide) ?_ | refine LT.skip2 rfl rfl (by decide) (by decide) ?_ | refine LT.partD rfl rfl (fun _ => ?_) (fun _ => ?_) | refine LT.partN rfl rfl (fun _ => ?_) (fun _ => ?_) | (refine LT.part1 rfl rfl (fun h => ?_) (fun h => ?_); (fail_if_success exact absurd h (by decide)); rotate_left; (fail_if_success exact absurd h (by decide)); rotate_left))
            refine ⟨by first | exact .inl rfl | exact .inr rfl, _, (.cons (.tmp 4 (A := .sl _ _) rfl (fun _ h => by cases h)) (.cons (.tmp 5 (A := .val _) rfl (fun _ h => by cases h)) .nil)), ?_, rfl⟩
            rfl
          all_goals
            rw [if_neg (by omega), ← hn1 (by omega)] at hins
            rw [hins]
            repeat' (first | refine CT.seqR ?_ | refine CT.region ?_ | refine CT.seq1 ?_ | refine CT.block ?_ | refine CT.condT rfl ?_ | refine CT.condF rfl ?_ | refine CT.condD rfl (fun _ => ?_) (fun _ => ?_) | refine CT.condN rfl (fun _ => ?_) (fun _ => ?_) | refine CT.cond rfl (fun _ => ?_) (fun _ => ?_) | refine CT.skip ?_ | refine CT.exit ?_ | refine CT.ret ?_ | refine CT.goto ?_ | refine CT.label ?_ | refine LT.nil ?_ | refine HT.nil1 ?_ | (refine LT.consT ?_; (first | refine T.box (e := 49) (cs := [.val _, .val _, .val _, .val _, .val _, .val _]) rfl rfl (by decide) rfl rfl ?_)) | ((first | apply LT.cons1 | (apply LT.guard1; rfl; rfl; rfl; decide)); (first | exact OpH.callF Try.func76 rfl rfl rfl gB rfl | exact OpH.callF Try.func77 rfl rfl rfl gA rfl | exact arm21_1); decide) | refine LT.skip1 rfl rfl rfl (by decide) (by decide) ?_ | refine LT.skip2 rfl rfl (by decide) (by decide) ?_ | refine LT.partD rfl rfl (fun _ => ?_) (fun _ => ?_) | refine LT.partN rfl rfl (fun _ => ?_) (fun _ => ?_) | (refine LT.part1 rfl rfl (fun h => ?_) (fun h => ?_); (fail_if_success exact absurd h (by decide)); rotate_left; (fail_if_success exact absurd h (by decide)); rotate_left))
            refine ⟨by first | exact .inl rfl | exact .inr rfl, _, (.cons (.tmp 4 (A := .sl _ _) rfl (fun _ h => by cases h)) (.cons (.tmp 5 (A := .val _) rfl (fun _ h => by cases h)) .nil)), ?_, rfl⟩
            rfl
end Go.Proofs.Ytnklfbeiagkhiaa
