/- ref13.Above. -/
import Derived.Test.YtjmnnkhdadoehaaZCaoU
namespace Go.Proofs.Ytjmnnkhdadoehaa
set_option linter.unusedSimpArgs false
set_option linter.unusedVariables false
open Go Go.RowKit Go.Shelf
structure InvA (l : List Slt) (W : List Int) (p : Nat) (m : Int) (f : Nat) (way : List Int) : Prop where
  lo : -1 ≤ m
  le : m < p
  lp : p ≤ l.length
  val : 0 ≤ m → (nth l m.toNat).valid = true
  fuel : 0 ≤ m → m.toNat < f
  bnd : ∀ v ∈ way, 0 ≤ v ∧ v < l.length
  len : way.length + p ≤ l.length
  is : W = if 0 ≤ emLast l (m + 1).toNat p then way ++ [emLast l (m + 1).toNat p] else behind way (wayG (nextA l) l.length f m)
theorem InvA.next {l : List Slt} {W : List Int} {i f : Nat} {m : Int} {way : List Int} (h : InvA l W (i + 1) m f way) (him : m ≠ i) (hv : (nth l i).valid = true) : InvA l W i m f way := by
  have h1 := h.lo
  have h2 := h.le
  have e := emLast_step l (show (m + 1).toNat ≤ i by omega)
  rw [if_pos hv] at e
  exact ⟨h1, by omega, by have := h.lp; omega, h.val, h.fuel, h.bnd, by have := h.len; omega, by rw [← e]; exact h.is⟩
theorem InvA.hit {l : List Slt} {W : List Int} {i f : Nat} {m : Int} {way : List Int} (h : InvA l W (i + 1) m f way) (hv : (nth l i).valid = false) : W = way ++ [(i : Int)] := by
  have h1 := h.lo
  have h2 := h.le
  have him : m ≠ i := fun e => by
    have := h.val (by omega)
    rw [e, Int.toNat_natCast, hv] at this; cases this
  have e := emLast_step l (show (m + 1).toNat ≤ i by omega)
  rw [if_neg (by rw [hv]; simp)] at e
  rw [h.is, e, if_pos (by omega)]
theorem InvA.push {l : List Slt} {W : List Int} {i f : Nat} {way : List Int} (h : InvA l W (i + 1) i f way) : (nth l i).valid = true ∧ InvA l W i (hiF l (nth l i).e i) (f - 1) (way ++ [(i : Int)]) := by
  have hv := h.val (by omega)
  rw [Int.toNat_natCast] at hv
  refine ⟨hv, ?_⟩
  have qb := lastTo_bound (hiP l (nth l i).e) i
  obtain ⟨_, q3⟩ := lastTo_spec (hiP l (nth l i).e) i
  have hq : hiF l (nth l i).e i = lastTo (hiP l (nth l i).e) i := rfl
  have hf := h.fuel (by omega)
  rw [Int.toNat_natCast] at hf
  obtain ⟨f, rfl⟩ : ∃ f', f = f' + 1 := ⟨f - 1, by omega⟩
  have his := h.is
  rw [show ((i : Int) + 1).toNat = i + 1 by omega, emLast_start, if_neg (by omega)] at his
  have e1 : (nextA l i).1 = hiF l (nth l i).e i := by unfold nextA; simp only [Int.toNat_natCast]
  have e2 : (nextA l i).2 = emLast l (hiF l (nth l i).e i + 1).toNat i := by unfold nextA; simp only [Int.toNat_natCast]
  have hlp := h.lp
  refine ⟨by omega, by omega, by omega, fun hl => ?_, fun hl => by omega, fun v hv' => ?_, by have := h.len; simp; omega, ?_⟩
  · have := q3 (by omega)
    rw [hq]
    unfold hiP at this
    rw [Bool.and_eq_true] at this
    exact this.1
  · rcases List.mem_append.1 hv' with hv' | hv'
    · exact h.bnd v hv'
    · rw [List.mem_singleton.1 hv']; omega
  · rw [his]
    by_cases c : 0 ≤ emLast l (hiF l (nth l i).e i + 1).toNat i
    · rw [if_pos c, wayG_free ⟨by omega, by omega⟩ (by rw [e2]; exact c), e2]
      simp [behind]
    · rw [if_neg c, wayG_far ⟨by omega, by omega⟩ (by rw [e2]; exact c), e1, behind_behind]
      simp only [Nat.add_sub_cancel]
theorem InvA.done {l : List Slt} {W : List Int} {m : Int} {f : Nat} {way : List Int} (h : InvA l W 0 m f way) : W = [] := by
  have h1 := h.lo
  have h2 := h.le
  have e : m = -1 := by omega
  subst e
  rw [h.is, show ((-1 : Int) + 1).toNat = 0 from rfl, emLast_start, if_neg (by omega), wayG_out (by omega)]; rfl
attribute [local irreducible] OpH OpT LT CT HT Good
theorem arm58_1 {p : Prop} (h : p := by first | exact OpH.assign (v := .val _) rfl | exact OpH.assign (v := .sl _ _) rfl | exact OpH.assign (v := .row _ _ _ _) rfl | exact OpH.assign (v := .full _ _) rfl | exact OpH.assign (v := .ptr _ _) rfl | exact OpH.assign (v := .cptr _) rfl | exact OpH.assign (v := .cloB _ _) rfl | exact OpH.assign (v := .clo _ _) rfl | exact OpH.assign (v := .pr _) rfl | exact OpH.assign (v := .arow _) rfl | exact OpH.assign (v := .aptr _ _ _ _) rfl | exact OpH.assign (v := .asub _ _ _ _) rfl | exact OpH.assign (v := .tup _) rfl | exact OpH.lit0 (t := 94) (e := 3) (k := 1) (by kernel_rfl) (by kernel_rfl) | exact OpH.move (v := .val _) rfl | exact OpH.move (v := .sl _ _) rfl | exact OpH.move (v := .row _ _ _ _) rfl | exact OpH.move (v := .full _ _) rfl | exact OpH.move (v := .ptr _ _) rfl | exact OpH.move (v := .cptr _) rfl | exact OpH.move (v := .cloB _ _) rfl | exact OpH.move (v := .clo _ _) rfl | exact OpH.move (v := .pr _) rfl | exact OpH.move (v := .arow _) rfl | exact OpH.move (v := .aptr _ _ _ _) rfl | exact OpH.move (v := .asub _ _ _ _) rfl | exact OpH.move (v := .tup _) rfl | exact OpH.bin rfl rfl (pb_sub (by omega)) | exact OpH.bin rfl rfl (pb_subw) | exact OpH.bin rfl rfl (pb_geq_t (by omega)) | exact OpH.bin rfl rfl (pb_geq_f (by omega)) | exact OpH.bin rfl rfl (pb_geq) | exact OpH.bin rfl rfl (pb_eql_t (by first | omega | assumption)) | exact OpH.bin rfl rfl (pb_eql_f (by first | omega | assumption)) | exact OpH.bin rfl rfl (pb_eql) | exact lit_94_1 rfl | exact OpH.bin rfl rfl (pb_lss_t (by omega)) | exact OpH.bin rfl rfl (pb_lss_f (by omega)) | exact OpH.bin rfl rfl (pb_lss) | exact OpH.indexS (t := 31) (k := 7) rfl slP rfl rfl (by kernel_rfl) (map_at bd) rfl | exact OpH.indexA (t := 31) (k := 7) rfl rfl rfl rfl (by kernel_rfl) bd | exact OpH.fieldC (s := 90) (f := 0) (off := 0) rfl (by kernel_rfl) rfl | exact OpH.fieldB (s := 90) (f := 0) (off := 0) rfl (by kernel_rfl) rfl | exact OpH.fieldA (s := 90) (f := 0) (off := 0) rfl (by kernel_rfl) rfl | exact OpH.loadC1 (t := 4) rfl (by kernel_rfl) rfl | exact OpH.loadB1 (t := 4) rfl rfl (by kernel_rfl) rfl | exact OpH.loadA1 (t := 4) rfl rfl rfl (map_at bd) (by kernel_rfl) rfl rfl | exact OpH.fieldC (s := 90) (f := 1) (off := 1) rfl (by kernel_rfl) rfl | exact OpH.fieldB (s := 90) (f := 1) (off := 1) rfl (by kernel_rfl) rfl | exact OpH.fieldA (s := 90) (f := 1) (off := 1) rfl (by kernel_rfl) rfl | exact loadC6 (t := 43) rfl (by kernel_rfl) | exact loadB6 (t := 43) rfl rfl (by kernel_rfl) rfl | exact OpH.loadA (t := 43) (vs := [_, _, _, _, _, _]) rfl rfl rfl (map_at bd) (by kernel_rfl) rfl rfl | exact OpH.callL Try.func61 rfl rfl rfl ((g_rAboveE _ _ _ _ _ _ _ _ _ _ _ _ (by assumption) (by assumption) (by assumption) (by assumption))) | exact OpH.pick (b := true) (v := .val _) rfl rfl | exact OpH.pick (b := false) (v := .val _) rfl rfl | exact OpH.pick (b := true) (v := .sl _ _) rfl rfl | exact OpH.pick (b := false) (v := .sl _ _) rfl rfl | exact OpH.pick (b := true) (v := .row _ _ _ _) rfl rfl | exact OpH.pick (b := false) (v := .row _ _ _ _) rfl rfl | exact OpH.pick (b := true) (v := .full _ _) rfl rfl | exact OpH.pick (b := false) (v := .full _ _) rfl rfl | exact OpH.pickV rfl rfl rfl | exact OpH.bin rfl rfl (pb_inc (by omega)) | exact OpH.bin rfl rfl (pb_addN rfl (by omega)) | exact OpH.bin rfl rfl (pb_add (by omega)) | exact OpH.bin rfl rfl (pb_addw) | exact OpH.un rfl un_not | exact OpH.un rfl (un_neg (by omega))) : p := h
set_option maxRecDepth 100000 in
set_option maxHeartbeats 4000000 in
theorem g_r13Above (l : List Slt) (x : Ent) (fr : Nat) (hfr : fr ≤ l.length) (hv : 0 < fr → (nth l (fr - 1)).valid = true) (hok : ∀ s ∈ l, s.e.w.ok) (hl : l.length ≤ 60000) : Good Try.prog 58 [.sl 7 (l.map encS), .val (.int .i64 fr), .val (.agg #[.int .u64 x.w.v.x, .int .u64 x.w.v.y, .int .u64 x.w.m.x, .int .u64 x.w.m.y, .int .i64 x.len, .int .i64 x.act])] (.sl 8 ((wrO l x (wayA l ((fr : Int) - 1))).map encX)) := by
  have h0 : InvA l (wayA l ((fr : Int) - 1)) fr ((fr : Int) - 1) (l.length + 1) [] := ⟨by omega, by omega, hfr, fun h => by rw [show ((fr : Int) - 1).toNat = fr - 1 by omega]; exact hv (by omega), fun _ => by omega, fun v h => (by cases h), by simpa using hfr, by
    rw [show ((fr : Int) - 1 + 1).toNat = fr by omega, emLast_start, if_neg (by omega)]
    show wayG (nextA l) l.length (l.length + 1) ((fr : Int) - 1) = behind [] _
    cases wayG (nextA l) l.length (l.length + 1) ((fr : Int) - 1) <;> rfl⟩
  generalize wayA l ((fr : Int) - 1) = W at h0 ⊢
  refine Good.of_body (T := [(0, _), (1, _), (2, _)]) Try.func58 rfl rfl rfl ?_
  intro K0 w0 hno
  repeat' (first | (refine LT.consT ?_; refine T.litA0 11 (t := 94) (e := 3) (k := 1) (by kernel_rfl) (by kernel_rfl) (by decide) rfl ?_) | refine CT.seqR ?_ | refine CT.seqD (id := 12) 17 (by kernel_rfl) (by kernel_rfl) ?_ | refine CT.draw (id := 12) 17 (by kernel_rfl) (by kernel_rfl) ?_ | refine CT.region ?_ | refine CT.seq1 ?_ | refine CT.block ?_ | refine CT.condT rfl ?_ | refine CT.condF rfl ?_ | refine CT.condD rfl (fun _ => ?_) (fun _ => ?_) | refine CT.condN rfl (fun _ => ?_) (fun _ => ?_) | refine CT.cond rfl (fun _ => ?_) (fun _ => ?_) | refine CT.skip ?_ | refine CT.exit ?_ | refine CT.ret ?_ | refine LT.nil ?_ | refine HT.nil1 ?_ | (refine LT.consT ?_; (first | refine T.box (e := 43) (cs := [.val _, .val _, .val _, .val _, .val _, .val _]) rfl rfl (by decide) rfl rfl ?_ | refine T.appNil (t := 94) (e := 3) (k := 1) (bytes := 8) rfl rfl srP (by kernel_rfl) szP (by decide) rfl ?_ | refine T.appA (t := 94) (e := 3) (k := 1) (bytes := 8) rfl rfl rfl srP (by kernel_rfl) szP (by decide) rfl rfl ?_ | refine T.app (t := 94) (e := 3) (k := 1) (bytes := 8) rfl rfl srP (by kernel_rfl) szP (by decide) rfl rfl ?_)) | ((first | apply LT.cons1 | (apply LT.guard1; rfl; rfl; rfl; decide) | apply HT.cons1 | (apply HT.guard1; rfl; rfl; rfl)); (first | exact arm58_1); (try decide)) | refine LT.skip1 rfl rfl rfl (by decide) (by decide) ?_ | refine LT.skip2 rfl rfl (by decide) (by decide) ?_ | refine LT.partD rfl rfl (fun _ => ?_) (fun _ => ?_) | refine LT.partN rfl rfl (fun _ => ?_) (fun _ => ?_) | refine HT.skip1 rfl rfl rfl ?_ | refine HT.skip2 rfl rfl ?_ | refine HT.partD rfl rfl (fun _ => ?_) (fun _ => ?_) | refine HT.partN rfl rfl (fun _ => ?_) (fun _ => ?_) | ((first | refine LT.part1 rfl rfl (fun h => ?_) (fun h => ?_) | refine HT.part1 rfl rfl (fun h => ?_) (fun h => ?_)); (fail_if_success exact absurd h (by decide)); rotate_left; (fail_if_success exact absurd h (by decide)); rotate_left))
  refine CT.loopX (fun q : Nat × Int × Nat × List Int => (⟨[(0, .sl 7 (l.map encS)), (5, .ptr 5 0), (7, .arow 11), (8, .val (.int .i64 q.2.1)), (9, .val (.int .i64 ((q.1 : Int) - 1)))], [(5, (encE x).map AV.val)], [(11, ⟨3, 1, q.2.2.2.map encI⟩)]⟩ : St))
    (fun q => InvA l W q.1 q.2.1 q.2.2.1 q.2.2.2) (fun q => q.1) (fr, (fr : Int) - 1, l.length + 1, []) ?_ h0 ?_
  · (apply Sub.mk; (focus (repeat (first | exact .nil | refine .other (.keep rfl rfl) ?_ | refine .other (.aref rfl rfl rfl) ?_ | refine .other (.val rfl (by first | rfl | (congr 1; first | omega | assumption | (symm; assumption)) | (simp; omega))) ?_ | refine .other .dead ?_ | refine .other (.sl rfl (.row _ _ _ _) rfl) ?_ | refine .other (.sl rfl (.sl _ _) rfl) ?_ | refine .other (.sl rfl (.full _ _) rfl) ?_ | refine .other (.slNil rfl rfl) ?_ | refine .rowNil rfl rfl rfl ?_ | refine .row rfl (by first | rfl | assumption | (rw [← List.map_append]; first | done | rfl | congr 1)) rfl rfl ?_))); (focus (repeat (first | exact .nil | refine KeepB.same rfl rfl rfl ?_ | refine KeepB.sameA rfl rfl rfl ?_))); (focus (repeat (first | exact .nil | refine KeepA.cons rfl (by first | rfl | assumption | exact List.map_set | exact List.map_set.symm | (rw [← List.map_append]; first | done | rfl | congr 1) | (congr 1; first | omega | assumption)) ?_))))
  rintro ⟨p, m, f, way⟩ h
  dsimp only at h ⊢
  have hlo := h.lo
  have hle := h.le
  have hlp := h.lp
  have hwl := h.len
  cases p with
  | zero =>
    rw [h.done]
    repeat' (first | (refine CT.sub (S' := ⟨[(6, .sl 8 (([] : List Wrt).map encX))], [], []⟩) ?_ (CT.ret ?_)) | refine CT.seqR ?_ | refine CT.seqD (id := 12) 17 (by kernel_rfl) (by kernel_rfl) ?_ | refine CT.draw (id := 12) 17 (by kernel_rfl) (by kernel_rfl) ?_ | refine CT.region ?_ | refine CT.seq1 ?_ | refine CT.block ?_ | refine CT.condT rfl ?_ | refine CT.condF rfl ?_ | refine CT.condD rfl (fun _ => ?_) (fun _ => ?_) | refine CT.condN rfl (fun _ => ?_) (fun _ => ?_) | refine CT.cond rfl (fun _ => ?_) (fun _ => ?_) | refine CT.skip ?_ | refine CT.exit ?_ | refine CT.ret ?_ | refine LT.nil ?_ | refine HT.nil1 ?_ | (refine LT.consT ?_; (first | refine T.box (e := 43) (cs := [.val _, .val _, .val _, .val _, .val _, .val _]) rfl rfl (by decide) rfl rfl ?_ | refine T.appNil (t := 94) (e := 3) (k := 1) (bytes := 8) rfl rfl srP (by kernel_rfl) szP (by decide) rfl ?_ | refine T.appA (t := 94) (e := 3) (k := 1) (bytes := 8) rfl rfl rfl srP (by kernel_rfl) szP (by decide) rfl rfl ?_ | refine T.app (t := 94) (e := 3) (k := 1) (bytes := 8) rfl rfl srP (by kernel_rfl) szP (by decide) rfl rfl ?_)) | ((first | apply LT.cons1 | (apply LT.guard1; rfl; rfl; rfl; decide) | apply HT.cons1 | (apply HT.guard1; rfl; rfl; rfl)); (first | exact arm58_1); (try decide)) | refine LT.skip1 rfl rfl rfl (by decide) (by decide) ?_ | refine LT.skip2 rfl rfl (by decide) (by decide) ?_ | refine LT.partD rfl rfl (fun _ => ?_) (fun _ => ?_) | refine LT.partN rfl rfl (fun _ => ?_) (fun _ => ?_) | refine HT.skip1 rfl rfl rfl ?_ | refine HT.skip2 rfl rfl ?_ | refine HT.partD rfl rfl (fun _ => ?_) (fun _ => ?_) | refine HT.partN rfl rfl (fun _ => ?_) (fun _ => ?_) | ((first | refine LT.part1 rfl rfl (fun h => ?_) (fun h => ?_) | refine HT.part1 rfl rfl (fun h => ?_) (fun h => ?_)); (fail_if_success exact absurd h (by decide)); rotate_left; (fail_if_success exact absurd h (by decide)); rotate_left))
    · (apply Sub.mk; (focus (repeat (first | exact .nil | refine .other (.keep rfl rfl) ?_ | refine .other (.aref rfl rfl rfl) ?_ | refine .other (.val rfl (by first | rfl | (congr 1; first | omega | assumption | (symm; assumption)) | (simp; omega))) ?_ | refine .other .dead ?_ | refine .other (.sl rfl (.row _ _ _ _) rfl) ?_ | refine .other (.sl rfl (.sl _ _) rfl) ?_ | refine .other (.sl rfl (.full _ _) rfl) ?_ | refine .other (.slNil rfl rfl) ?_ | refine .rowNil rfl rfl rfl ?_ | refine .row rfl (by first | rfl | assumption | (rw [← List.map_append]; first | done | rfl | congr 1)) rfl rfl ?_))); (focus (repeat (first | exact .nil | refine KeepB.same rfl rfl rfl ?_ | refine KeepB.sameA rfl rfl rfl ?_))); (focus (repeat (first | exact .nil | refine KeepA.cons rfl (by first | rfl | assumption | exact List.map_set | exact List.map_set.symm | (rw [← List.map_append]; first | done | rfl | congr 1) | (congr 1; first | omega | assumption)) ?_))))
    · refine ⟨by first | exact .inl rfl | exact .inr rfl, _, (.cons (.tmp 6 (A := .sl _ _) rfl (fun _ h => by cases h)) .nil), ?_, rfl⟩
      rfl
  | succ i =>
    have hlt : i < l.length := by omega
    have hz : ((i + 1 : Nat) : Int) - 1 = i := by omega
    rw [hz]
    cases hs : l[i] with
    | mk v e =>
      have hat := slot_at hlt hs
      have hn := nth_is hlt hs
      by_cases him : m = i
      · subst him
        obtain ⟨hvi, h'⟩ := h.push
        rw [hn] at hvi h'
        dsimp only at hvi h'
        subst hvi
        repeat' (first | refine CT.seqR ?_ | refine CT.seqD (id := 12) 17 (by kernel_rfl) (by kernel_rfl) ?_ | refine CT.draw (id := 12) 17 (by kernel_rfl) (by kernel_rfl) ?_ | refine CT.region ?_ | refine CT.seq1 ?_ | refine CT.block ?_ | refine CT.condT rfl ?_ | refine CT.condF rfl ?_ | refine CT.condD rfl (fun _ => ?_) (fun _ => ?_) | refine CT.condN rfl (fun _ => ?_) (fun _ => ?_) | refine CT.cond rfl (fun _ => ?_) (fun _ => ?_) | refine CT.skip ?_ | refine CT.exit ?_ | refine CT.ret ?_ | refine LT.nil ?_ | refine HT.nil1 ?_ | (refine LT.consT ?_; (first | refine T.box (e := 43) (cs := [.val _, .val _, .val _, .val _, .val _, .val _]) rfl rfl (by decide) rfl rfl ?_ | refine T.appNil (t := 94) (e := 3) (k := 1) (bytes := 8) rfl rfl srP (by kernel_rfl) szP (by decide) rfl ?_ | refine T.appA (t := 94) (e := 3) (k := 1) (bytes := 8) rfl rfl rfl srP (by kernel_rfl) szP (by decide) rfl rfl ?_ | refine T.app (t := 94) (e := 3) (k := 1) (bytes := 8) rfl rfl srP (by kernel_rfl) szP (by decide) rfl rfl ?_)) | ((first | apply LT.cons1 | (apply LT.guard1; rfl; rfl; rfl; decide) | apply HT.cons1 | (apply HT.guard1; rfl; rfl; rfl)); (first | exact arm58_1); (try decide)) | refine LT.skip1 rfl rfl rfl (by decide) (by decide) ?_ | refine LT.skip2 rfl rfl (by decide) (by decide) ?_ | refine LT.partD rfl rfl (fun _ => ?_) (fun _ => ?_) | refine LT.partN rfl rfl (fun _ => ?_) (fun _ => ?_) | refine HT.skip1 rfl rfl rfl ?_ | refine HT.skip2 rfl rfl ?_ | refine HT.partD rfl rfl (fun _ => ?_) (fun _ => ?_) | refine HT.partN rfl rfl (fun _ => ?_) (fun _ => ?_) | ((first | refine LT.part1 rfl rfl (fun h => ?_) (fun h => ?_) | refine HT.part1 rfl rfl (fun h => ?_) (fun h => ?_)); (fail_if_success exact absurd h (by decide)); rotate_left; (fail_if_success exact absurd h (by decide)); rotate_left))
        refine CT.loopX (fun k : Nat => (⟨[(0, .sl 7 (l.map encS)), (5, .ptr 5 0), (7, .arow 11), (8, .val (.int .i64 (hiF l e k))), (9, .val (.int .i64 i)), (10, .val (.int .i64 k))], [(5, (encE x).map AV.val)], [(11, ⟨3, 1, (way ++ [(i : Int)]).map encI⟩)]⟩ : St))
          (fun k => k ≤ i) (fun k => i - k) 0 ?_ (by omega) ?_
        · rw [show hiF l e 0 = -1 from rfl]
          (apply Sub.mk; (focus (repeat (first | exact .nil | refine .other (.keep rfl rfl) ?_ | refine .other (.aref rfl rfl rfl) ?_ | refine .other (.val rfl (by first | rfl | (congr 1; first | omega | assumption | (symm; assumption)) | (simp; omega))) ?_ | refine .other .dead ?_ | refine .other (.sl rfl (.row _ _ _ _) rfl) ?_ | refine .other (.sl rfl (.sl _ _) rfl) ?_ | refine .other (.sl rfl (.full _ _) rfl) ?_ | refine .other (.slNil rfl rfl) ?_ | refine .rowNil rfl rfl rfl ?_ | refine .row rfl (by first | rfl | assumption | (rw [← List.map_append]; first | done | rfl | congr 1)) rfl rfl ?_))); (focus (repeat (first | exact .nil | refine KeepB.same rfl rfl rfl ?_ | refine KeepB.sameA rfl rfl rfl ?_))); (focus (repeat (first | exact .nil | refine KeepA.cons rfl (by first | rfl | assumption | exact List.map_set | exact List.map_set.symm | (rw [← List.map_append]; first | done | rfl | congr 1) | (congr 1; first | omega | assumption)) ?_))))
        rintro j hk2
        by_cases hki : j = i
        · subst hki
          generalize hiF l e j = lo at h' ⊢
          repeat' (first | refine CT.seqR ?_ | refine CT.seqD (id := 12) 17 (by kernel_rfl) (by kernel_rfl) ?_ | refine CT.draw (id := 12) 17 (by kernel_rfl) (by kernel_rfl) ?_ | refine CT.region ?_ | refine CT.seq1 ?_ | refine CT.block ?_ | refine CT.condT rfl ?_ | refine CT.condF rfl ?_ | refine CT.condD rfl (fun _ => ?_) (fun _ => ?_) | refine CT.condN rfl (fun _ => ?_) (fun _ => ?_) | refine CT.cond rfl (fun _ => ?_) (fun _ => ?_) | refine CT.skip ?_ | refine CT.exit ?_ | refine CT.ret ?_ | refine LT.nil ?_ | refine HT.nil1 ?_ | (refine LT.consT ?_; (first | refine T.box (e := 43) (cs := [.val _, .val _, .val _, .val _, .val _, .val _]) rfl rfl (by decide) rfl rfl ?_ | refine T.appNil (t := 94) (e := 3) (k := 1) (bytes := 8) rfl rfl srP (by kernel_rfl) szP (by decide) rfl ?_ | refine T.appA (t := 94) (e := 3) (k := 1) (bytes := 8) rfl rfl rfl srP (by kernel_rfl) szP (by decide) rfl rfl ?_ | refine T.app (t := 94) (e := 3) (k := 1) (bytes := 8) rfl rfl srP (by kernel_rfl) szP (by decide) rfl rfl ?_)) | ((first | apply LT.cons1 | (apply LT.guard1; rfl; rfl; rfl; decide) | apply HT.cons1 | (apply HT.guard1; rfl; rfl; rfl)); (first | exact OpH.indexS (t := 31) (k := 7) (j := j) rfl slP rfl rfl (by kernel_rfl) hat rfl | exact arm58_1); (try decide)) | refine LT.skip1 rfl rfl rfl (by decide) (by decide) ?_ | refine LT.skip2 rfl rfl (by decide) (by decide) ?_ | refine LT.partD rfl rfl (fun _ => ?_) (fun _ => ?_) | refine LT.partN rfl rfl (fun _ => ?_) (fun _ => ?_) | refine HT.skip1 rfl rfl rfl ?_ | refine HT.skip2 rfl rfl ?_ | refine HT.partD rfl rfl (fun _ => ?_) (fun _ => ?_) | refine HT.partN rfl rfl (fun _ => ?_) (fun _ => ?_) | ((first | refine LT.part1 rfl rfl (fun h => ?_) (fun h => ?_) | refine HT.part1 rfl rfl (fun h => ?_) (fun h => ?_)); (fail_if_success exact absurd h (by decide)); rotate_left; (fail_if_success exact absurd h (by decide)); rotate_left))
          refine ⟨(j, lo, f - 1, way ++ [(j : Int)]), h', by dsimp only; omega, ?_⟩
          dsimp only
          (apply Sub.mk; (focus (repeat (first | exact .nil | refine .other (.keep rfl rfl) ?_ | refine .other (.aref rfl rfl rfl) ?_ | refine .other (.val rfl (by first | rfl | (congr 1; first | omega | assumption | (symm; assumption)) | (simp; omega))) ?_ | refine .other .dead ?_ | refine .other (.sl rfl (.row _ _ _ _) rfl) ?_ | refine .other (.sl rfl (.sl _ _) rfl) ?_ | refine .other (.sl rfl (.full _ _) rfl) ?_ | refine .other (.slNil rfl rfl) ?_ | refine .rowNil rfl rfl rfl ?_ | refine .row rfl (by first | rfl | assumption | (rw [← List.map_append]; first | done | rfl | congr 1)) rfl rfl ?_))); (focus (repeat (first | exact .nil | refine KeepB.same rfl rfl rfl ?_ | refine KeepB.sameA rfl rfl rfl ?_))); (focus (repeat (first | exact .nil | refine KeepA.cons rfl (by first | rfl | assumption | exact List.map_set | exact List.map_set.symm | (rw [← List.map_append]; first | done | rfl | congr 1) | (congr 1; first | omega | assumption)) ?_))))
        · have hjl : j < l.length := by omega
          have hst : hiF l e (j + 1) = if hiP l e j = true then (j : Int) else hiF l e j := rfl
          cases hsj : l[j] with
          | mk vj ej =>
            have hatj := slot_at hjl hsj
            have hnj := nth_is hjl hsj
            unfold hiP at hst
            rw [hnj] at hst
            generalize hiF l e j = lo at hst ⊢
            cases vj with
            | true =>
              have gA := g_r5Above ej e (sl_ok hok hjl hsj) (sl_ok hok hlt hs)
              cases hA : eAbove ej e with
              | true =>
                rw [hA] at gA hst
                rw [if_pos (by rfl)] at hst
                repeat' (first | refine CT.seqR ?_ | refine CT.seqD (id := 12) 17 (by kernel_rfl) (by kernel_rfl) ?_ | refine CT.draw (id := 12) 17 (by kernel_rfl) (by kernel_rfl) ?_ | refine CT.region ?_ | refine CT.seq1 ?_ | refine CT.block ?_ | refine CT.condT rfl ?_ | refine CT.condF rfl ?_ | refine CT.condD rfl (fun _ => ?_) (fun _ => ?_) | refine CT.condN rfl (fun _ => ?_) (fun _ => ?_) | refine CT.cond rfl (fun _ => ?_) (fun _ => ?_) | refine CT.skip ?_ | refine CT.exit ?_ | refine CT.ret ?_ | refine LT.nil ?_ | refine HT.nil1 ?_ | (refine LT.consT ?_; (first | refine T.box (e := 43) (cs := [.val _, .val _, .val _, .val _, .val _, .val _]) rfl rfl (by decide) rfl rfl ?_ | refine T.appNil (t := 94) (e := 3) (k := 1) (bytes := 8) rfl rfl srP (by kernel_rfl) szP (by decide) rfl ?_ | refine T.appA (t := 94) (e := 3) (k := 1) (bytes := 8) rfl rfl rfl srP (by kernel_rfl) szP (by decide) rfl rfl ?_ | refine T.app (t := 94) (e := 3) (k := 1) (bytes := 8) rfl rfl srP (by kernel_rfl) szP (by decide) rfl rfl ?_)) | ((first | apply LT.cons1 | (apply LT.guard1; rfl; rfl; rfl; decide) | apply HT.cons1 | (apply HT.guard1; rfl; rfl; rfl)); (first | exact OpH.indexS (t := 31) (k := 7) (j := j) rfl slP rfl rfl (by kernel_rfl) hatj rfl | exact OpH.indexS (t := 31) (k := 7) (j := i) rfl slP rfl rfl (by kernel_rfl) hat rfl | exact OpH.callF Try.func61 rfl rfl rfl gA rfl | exact arm58_1); (try decide)) | refine LT.skip1 rfl rfl rfl (by decide) (by decide) ?_ | refine LT.skip2 rfl rfl (by decide) (by decide) ?_ | refine LT.partD rfl rfl (fun _ => ?_) (fun _ => ?_) | refine LT.partN rfl rfl (fun _ => ?_) (fun _ => ?_) | refine HT.skip1 rfl rfl rfl ?_ | refine HT.skip2 rfl rfl ?_ | refine HT.partD rfl rfl (fun _ => ?_) (fun _ => ?_) | refine HT.partN rfl rfl (fun _ => ?_) (fun _ => ?_) | ((first | refine LT.part1 rfl rfl (fun h => ?_) (fun h => ?_) | refine HT.part1 rfl rfl (fun h => ?_) (fun h => ?_)); (fail_if_success exact absurd h (by decide)); rotate_left; (fail_if_success exact absurd h (by decide)); rotate_left))
                refine ⟨j + 1, by omega, by omega, ?_⟩
                rw [hst]
                (apply Sub.mk; (focus (repeat (first | exact .nil | refine .other (.keep rfl rfl) ?_ | refine .other (.aref rfl rfl rfl) ?_ | refine .other (.val rfl (by first | rfl | (congr 1; first | omega | assumption | (symm; assumption)) | (simp; omega))) ?_ | refine .other .dead ?_ | refine .other (.sl rfl (.row _ _ _ _) rfl) ?_ | refine .other (.sl rfl (.sl _ _) rfl) ?_ | refine .other (.sl rfl (.full _ _) rfl) ?_ | refine .other (.slNil rfl rfl) ?_ | refine .rowNil rfl rfl rfl ?_ | refine .row rfl (by first | rfl | assumption | (rw [← List.map_append]; first | done | rfl | congr 1)) rfl rfl ?_))); (focus (repeat (first | exact .nil | refine KeepB.same rfl rfl rfl ?_ | refine KeepB.sameA rfl rfl rfl ?_))); (focus (repeat (first | exact .nil | refine KeepA.cons rfl (by first | rfl | assumption | exact List.map_set | exact List.map_set.symm | (rw [← List.map_append]; first | done | rfl | congr 1) | (congr 1; first | omega | assumption)) ?_))))
              | false =>
                rw [hA] at gA hst
                rw [if_neg (by simp)] at hst
                repeat' (first | refine CT.seqR ?_ | refine CT.seqD (id := 12) 17 (by kernel_rfl) (by kernel_rfl) ?_ | refine CT.draw (id := 12) 17 (by kernel_rfl) (by kernel_rfl) ?_ | refine CT.region ?_ | refine CT.seq1 ?_ | refine CT.block ?_ | refine CT.condT rfl ?_ | refine CT.condF rfl ?_ | refine CT.condD rfl (fun _ => ?_) (fun _ => ?_) | refine CT.condN rfl (fun _ => ?_) (fun _ => ?_) | refine CT.cond rfl (fun _ => ?_) (fun _ => ?_) | refine CT.skip ?_ | refine CT.exit ?_ | refine CT.ret ?_ | refine LT.nil ?_ | refine HT.nil1 ?_ | (refine LT.consT ?_; (first | refine T.box (e := 43) (cs := [.val _, .val _, .val _, .val _, .val _, .val _]) rfl rfl (by decide) rfl rfl ?_ | refine T.appNil (t := 94) (e := 3) (k := 1) (bytes := 8) rfl rfl srP (by kernel_rfl) szP (by decide) rfl ?_ | refine T.appA (t := 94) (e := 3) (k := 1) (bytes := 8) rfl rfl rfl srP (by kernel_rfl) szP (by decide) rfl rfl ?_ | refine T.app (t := 94) (e := 3) (k := 1) (bytes := 8) rfl rfl srP (by kernel_rfl) szP (by decide) rfl rfl ?_)) | ((first | apply LT.cons1 | (apply LT.guard1; rfl; rfl; rfl; decide) | apply HT.cons1 | (apply HT.guard1; rfl; rfl; rfl)); (first | exact OpH.indexS (t := 31) (k := 7) (j := j) rfl slP rfl rfl (by kernel_rfl) hatj rfl | exact OpH.indexS (t := 31) (k := 7) (j := i) rfl slP rfl rfl (by kernel_rfl) hat rfl | exact OpH.callF Try.func61 rfl rfl rfl gA rfl | exact arm58_1); (try decide)) | refine LT.skip1 rfl rfl rfl (by decide) (by decide) ?_ | refine LT.skip2 rfl rfl (by decide) (by decide) ?_ | refine LT.partD rfl rfl (fun _ => ?_) (fun _ => ?_) | refine LT.partN rfl rfl (fun _ => ?_) (fun _ => ?_) | refine HT.skip1 rfl rfl rfl ?_ | refine HT.skip2 rfl rfl ?_ | refine HT.partD rfl rfl (fun _ => ?_) (fun _ => ?_) | refine HT.partN rfl rfl (fun _ => ?_) (fun _ => ?_) | ((first | refine LT.part1 rfl rfl (fun h => ?_) (fun h => ?_) | refine HT.part1 rfl rfl (fun h => ?_) (fun h => ?_)); (fail_if_success exact absurd h (by decide)); rotate_left; (fail_if_success exact absurd h (by decide)); rotate_left))
                refine ⟨j + 1, by omega, by omega, ?_⟩
                rw [hst]
                (apply Sub.mk; (focus (repeat (first | exact .nil | refine .other (.keep rfl rfl) ?_ | refine .other (.aref rfl rfl rfl) ?_ | refine .other (.val rfl (by first | rfl | (congr 1; first | omega | assumption | (symm; assumption)) | (simp; omega))) ?_ | refine .other .dead ?_ | refine .other (.sl rfl (.row _ _ _ _) rfl) ?_ | refine .other (.sl rfl (.sl _ _) rfl) ?_ | refine .other (.sl rfl (.full _ _) rfl) ?_ | refine .other (.slNil rfl rfl) ?_ | refine .rowNil rfl rfl rfl ?_ | refine .row rfl (by first | rfl | assumption | (rw [← List.map_append]; first | done | rfl | congr 1)) rfl rfl ?_))); (focus (repeat (first | exact .nil | refine KeepB.same rfl rfl rfl ?_ | refine KeepB.sameA rfl rfl rfl ?_))); (focus (repeat (first | exact .nil | refine KeepA.cons rfl (by first | rfl | assumption | exact List.map_set | exact List.map_set.symm | (rw [← List.map_append]; first | done | rfl | congr 1) | (congr 1; first | omega | assumption)) ?_))))
            | false =>
              rw [if_neg (by simp)] at hst
              repeat' (first | refine CT.seqR ?_ | refine CT.seqD (id := 12) 17 (by kernel_rfl) (by kernel_rfl) ?_ | refine CT.draw (id := 12) 17 (by kernel_rfl) (by kernel_rfl) ?_ | refine CT.region ?_ | refine CT.seq1 ?_ | refine CT.block ?_ | refine CT.condT rfl ?_ | refine CT.condF rfl ?_ | refine CT.condD rfl (fun _ => ?_) (fun _ => ?_) | refine CT.condN rfl (fun _ => ?_) (fun _ => ?_) | refine CT.cond rfl (fun _ => ?_) (fun _ => ?_) | refine CT.skip ?_ | refine CT.exit ?_ | refine CT.ret ?_ | refine LT.nil ?_ | refine HT.nil1 ?_ | (refine LT.consT ?_; (first | refine T.box (e := 43) (cs := [.val _, .val _, .val _, .val _, .val _, .val _]) rfl rfl (by decide) rfl rfl ?_ | refine T.appNil (t := 94) (e := 3) (k := 1) (bytes := 8) rfl rfl srP (by kernel_rfl) szP (by decide) rfl ?_ | refine T.appA (t := 94) (e := 3) (k := 1) (bytes := 8) rfl rfl rfl srP (by kernel_rfl) szP (by decide) rfl rfl ?_ | refine T.app (t := 94) (e := 3) (k := 1) (bytes := 8) rfl rfl srP (by kernel_rfl) szP (by decide) rfl rfl ?_)) | ((first | apply LT.cons1 | (apply LT.guard1; rfl; rfl; rfl; decide) | apply HT.cons1 | (apply HT.guard1; rfl; rfl; rfl)); (first | exact OpH.indexS (t := 31) (k := 7) (j := j) rfl slP rfl rfl (by kernel_rfl) hatj rfl | exact OpH.indexS (t := 31) (k := 7) (j := i) rfl slP rfl rfl (by kernel_rfl) hat rfl | exact arm58_1); (try decide)) | refine LT.skip1 rfl rfl rfl (by decide) (by decide) ?_ | refine LT.skip2 rfl rfl (by decide) (by decide) ?_ | refine LT.partD rfl rfl (fun _ => ?_) (fun _ => ?_) | refine LT.partN rfl rfl (fun _ => ?_) (fun _ => ?_) | refine HT.skip1 rfl rfl rfl ?_ | refine HT.skip2 rfl rfl ?_ | refine HT.partD rfl rfl (fun _ => ?_) (fun _ => ?_) | refine HT.partN rfl rfl (fun _ => ?_) (fun _ => ?_) | ((first | refine LT.part1 rfl rfl (fun h => ?_) (fun h => ?_) | refine HT.part1 rfl rfl (fun h => ?_) (fun h => ?_)); (fail_if_success exact absurd h (by decide)); rotate_left; (fail_if_success exact absurd h (by decide)); rotate_left))
              refine ⟨j + 1, by omega, by omega, ?_⟩
              rw [hst]
              (apply Sub.mk; (focus (repeat (first | exact .nil | refine .other (.keep rfl rfl) ?_ | refine .other (.aref rfl rfl rfl) ?_ | refine .other (.val rfl (by first | rfl | (congr 1; first | omega | assumption | (symm; assumption)) | (simp; omega))) ?_ | refine .other .dead ?_ | refine .other (.sl rfl (.row _ _ _ _) rfl) ?_ | refine .other (.sl rfl (.sl _ _) rfl) ?_ | refine .other (.sl rfl (.full _ _) rfl) ?_ | refine .other (.slNil rfl rfl) ?_ | refine .rowNil rfl rfl rfl ?_ | refine .row rfl (by first | rfl | assumption | (rw [← List.map_append]; first | done | rfl | congr 1)) rfl rfl ?_))); (focus (repeat (first | exact .nil | refine KeepB.same rfl rfl rfl ?_ | refine KeepB.sameA rfl rfl rfl ?_))); (focus (repeat (first | exact .nil | refine KeepA.cons rfl (by first | rfl | assumption | exact List.map_set | exact List.map_set.symm | (rw [← List.map_append]; first | done | rfl | congr 1) | (congr 1; first | omega | assumption)) ?_))))
      · have him' : ¬ (i : Int) = m := fun e => him e.symm
        cases v with
        | true =>
          have h' := h.next him (by rw [hn])
          repeat' (first | refine CT.seqR ?_ | refine CT.seqD (id := 12) 17 (by kernel_rfl) (by kernel_rfl) ?_ | refine CT.draw (id := 12) 17 (by kernel_rfl) (by kernel_rfl) ?_ | refine CT.region ?_ | refine CT.seq1 ?_ | refine CT.block ?_ | refine CT.condT rfl ?_ | refine CT.condF rfl ?_ | refine CT.condD rfl (fun _ => ?_) (fun _ => ?_) | refine CT.condN rfl (fun _ => ?_) (fun _ => ?_) | refine CT.cond rfl (fun _ => ?_) (fun _ => ?_) | refine CT.skip ?_ | refine CT.exit ?_ | refine CT.ret ?_ | refine LT.nil ?_ | refine HT.nil1 ?_ | (refine LT.consT ?_; (first | refine T.box (e := 43) (cs := [.val _, .val _, .val _, .val _, .val _, .val _]) rfl rfl (by decide) rfl rfl ?_ | refine T.appNil (t := 94) (e := 3) (k := 1) (bytes := 8) rfl rfl srP (by kernel_rfl) szP (by decide) rfl ?_ | refine T.appA (t := 94) (e := 3) (k := 1) (bytes := 8) rfl rfl rfl srP (by kernel_rfl) szP (by decide) rfl rfl ?_ | refine T.app (t := 94) (e := 3) (k := 1) (bytes := 8) rfl rfl srP (by kernel_rfl) szP (by decide) rfl rfl ?_)) | ((first | apply LT.cons1 | (apply LT.guard1; rfl; rfl; rfl; decide) | apply HT.cons1 | (apply HT.guard1; rfl; rfl; rfl)); (first | exact OpH.indexS (t := 31) (k := 7) (j := i) rfl slP rfl rfl (by kernel_rfl) hat rfl | exact arm58_1); (try decide)) | refine LT.skip1 rfl rfl rfl (by decide) (by decide) ?_ | refine LT.skip2 rfl rfl (by decide) (by decide) ?_ | refine LT.partD rfl rfl (fun _ => ?_) (fun _ => ?_) | refine LT.partN rfl rfl (fun _ => ?_) (fun _ => ?_) | refine HT.skip1 rfl rfl rfl ?_ | refine HT.skip2 rfl rfl ?_ | refine HT.partD rfl rfl (fun _ => ?_) (fun _ => ?_) | refine HT.partN rfl rfl (fun _ => ?_) (fun _ => ?_) | ((first | refine LT.part1 rfl rfl (fun h => ?_) (fun h => ?_) | refine HT.part1 rfl rfl (fun h => ?_) (fun h => ?_)); (fail_if_success exact absurd h (by decide)); rotate_left; (fail_if_success exact absurd h (by decide)); rotate_left))
          refine ⟨(i, m, f, way), h', by dsimp only; omega, ?_⟩
          dsimp only
          (apply Sub.mk; (focus (repeat (first | exact .nil | refine .other (.keep rfl rfl) ?_ | refine .other (.aref rfl rfl rfl) ?_ | refine .other (.val rfl (by first | rfl | (congr 1; first | omega | assumption | (symm; assumption)) | (simp; omega))) ?_ | refine .other .dead ?_ | refine .other (.sl rfl (.row _ _ _ _) rfl) ?_ | refine .other (.sl rfl (.sl _ _) rfl) ?_ | refine .other (.sl rfl (.full _ _) rfl) ?_ | refine .other (.slNil rfl rfl) ?_ | refine .rowNil rfl rfl rfl ?_ | refine .row rfl (by first | rfl | assumption | (rw [← List.map_append]; first | done | rfl | congr 1)) rfl rfl ?_))); (focus (repeat (first | exact .nil | refine KeepB.same rfl rfl rfl ?_ | refine KeepB.sameA rfl rfl rfl ?_))); (focus (repeat (first | exact .nil | refine KeepA.cons rfl (by first | rfl | assumption | exact List.map_set | exact List.map_set.symm | (rw [← List.map_append]; first | done | rfl | congr 1) | (congr 1; first | omega | assumption)) ?_))))
        | false =>
          have hW := h.hit (by rw [hn])
          have gE := g_r13end l x way i h.bnd (by omega) (by omega)
          rw [hW, wrO_app]
          generalize writesOf l x (way ++ [(i : Int)]) = ws at gE ⊢
          repeat' (first | (refine LT.consT ?_; refine T.callArrL 61 Try.func56 rfl rfl rfl gE (by decide) rfl ?_) | (refine CT.froz hno.1 61 rfl rfl ?_; refine CT.sub (S' := ⟨[(6, .sl 8 (ws.map encX))], [], []⟩) ?_ (CT.ret ?_)) | refine CT.seqR ?_ | refine CT.seqD (id := 12) 17 (by kernel_rfl) (by kernel_rfl) ?_ | refine CT.draw (id := 12) 17 (by kernel_rfl) (by kernel_rfl) ?_ | refine CT.region ?_ | refine CT.seq1 ?_ | refine CT.block ?_ | refine CT.condT rfl ?_ | refine CT.condF rfl ?_ | refine CT.condD rfl (fun _ => ?_) (fun _ => ?_) | refine CT.condN rfl (fun _ => ?_) (fun _ => ?_) | refine CT.cond rfl (fun _ => ?_) (fun _ => ?_) | refine CT.skip ?_ | refine CT.exit ?_ | refine CT.ret ?_ | refine LT.nil ?_ | refine HT.nil1 ?_ | (refine LT.consT ?_; (first | refine T.box (e := 43) (cs := [.val _, .val _, .val _, .val _, .val _, .val _]) rfl rfl (by decide) rfl rfl ?_ | refine T.appNil (t := 94) (e := 3) (k := 1) (bytes := 8) rfl rfl srP (by kernel_rfl) szP (by decide) rfl ?_ | refine T.appA (t := 94) (e := 3) (k := 1) (bytes := 8) rfl rfl rfl srP (by kernel_rfl) szP (by decide) rfl rfl ?_ | refine T.app (t := 94) (e := 3) (k := 1) (bytes := 8) rfl rfl srP (by kernel_rfl) szP (by decide) rfl rfl ?_)) | ((first | apply LT.cons1 | (apply LT.guard1; rfl; rfl; rfl; decide) | apply HT.cons1 | (apply HT.guard1; rfl; rfl; rfl)); (first | exact OpH.indexS (t := 31) (k := 7) (j := i) rfl slP rfl rfl (by kernel_rfl) hat rfl | exact arm58_1); (try decide)) | refine LT.skip1 rfl rfl rfl (by decide) (by decide) ?_ | refine LT.skip2 rfl rfl (by decide) (by decide) ?_ | refine LT.partD rfl rfl (fun _ => ?_) (fun _ => ?_) | refine LT.partN rfl rfl (fun _ => ?_) (fun _ => ?_) | refine HT.skip1 rfl rfl rfl ?_ | refine HT.skip2 rfl rfl ?_ | refine HT.partD rfl rfl (fun _ => ?_) (fun _ => ?_) | refine HT.partN rfl rfl (fun _ => ?_) (fun _ => ?_) | ((first | refine LT.part1 rfl rfl (fun h => ?_) (fun h => ?_) | refine HT.part1 rfl rfl (fun h => ?_) (fun h => ?_)); (fail_if_success exact absurd h (by decide)); rotate_left; (fail_if_success exact absurd h (by decide)); rotate_left))
          · (apply Sub.mk; (focus (repeat (first | exact .nil | refine .other (.keep rfl rfl) ?_ | refine .other (.aref rfl rfl rfl) ?_ | refine .other (.val rfl (by first | rfl | (congr 1; first | omega | assumption | (symm; assumption)) | (simp; omega))) ?_ | refine .other .dead ?_ | refine .other (.sl rfl (.row _ _ _ _) rfl) ?_ | refine .other (.sl rfl (.sl _ _) rfl) ?_ | refine .other (.sl rfl (.full _ _) rfl) ?_ | refine .other (.slNil rfl rfl) ?_ | refine .rowNil rfl rfl rfl ?_ | refine .row rfl (by first | rfl | assumption | (rw [← List.map_append]; first | done | rfl | congr 1)) rfl rfl ?_))); (focus (repeat (first | exact .nil | refine KeepB.same rfl rfl rfl ?_ | refine KeepB.sameA rfl rfl rfl ?_))); (focus (repeat (first | exact .nil | refine KeepA.cons rfl (by first | rfl | assumption | exact List.map_set | exact List.map_set.symm | (rw [← List.map_append]; first | done | rfl | congr 1) | (congr 1; first | omega | assumption)) ?_))))
          · refine ⟨by first | exact .inl rfl | exact .inr rfl, _, (.cons (.tmp 6 (A := .sl _ _) rfl (fun _ h => by cases h)) .nil), ?_, rfl⟩
            rfl
end Go.Proofs.Ytjmnnkhdadoehaa

/- ref13.Insert. -/
namespace Go.Proofs.Ytjmnnkhdadoehaa
set_option linter.unusedSimpArgs false
set_option linter.unusedVariables false
open Go Go.RowKit Go.Shelf
theorem wrO_length (l : List Slt) (x : Ent) (w : List Int) : (wrO l x w).length = w.length := by
  cases w with
  | nil => rfl
  | cons a w => exact writesOf_length l x (by simp)
theorem wrO_ne (l : List Slt) (x : Ent) {w : List Int} (h : 0 < w.length) : wrO l x w = writesOf l x w := by
  cases w with
  | nil => simp at h
  | cons a w => rfl
attribute [local irreducible] OpH OpT LT CT HT Good
theorem g_r13end0 (l : List Slt) (x : Ent) (fr : Int) (hl : l.length ≤ 65536) : Good Try.prog 56 [.sl 7 (l.map encS), .val (.slice none 0 0), .val (.int .i64 fr), .val (.agg #[.int .u64 x.w.v.x, .int .u64 x.w.v.y, .int .u64 x.w.m.x, .int .u64 x.w.m.y, .int .i64 x.len, .int .i64 x.act])] (.row 42 104 8 ((writesOf l x [fr]).map encX)) := by
  have h := g_r13end l x [] fr (fun v h => (by cases h)) hl (by simp)
  unfold Good at h ⊢
  intro K w cargs hok hlen hrep
  refine h K w cargs hok hlen fun i A c hA hc => ?_
  match i with
  | 0 => exact hrep 0 A c hA hc
  | 1 =>
    have e := hrep 1 (.val (.slice none 0 0)) c rfl hc
    obtain rfl : A = .sl 1 [] := (Option.some.inj hA).symm
    exact ⟨none, 0, e, Nat.le_refl _, fun _ => rfl, by simp, fun i x h => by simp at h⟩
  | 2 => exact hrep 2 A c hA hc
  | 3 => exact hrep 3 A c hA hc
  | i + 4 => simp at hA
theorem arm15_1 {p : Prop} (h : p := by first | exact OpH.assign (v := .val _) rfl | exact OpH.assign (v := .sl _ _) rfl | exact OpH.assign (v := .row _ _ _ _) rfl | exact OpH.assign (v := .full _ _) rfl | exact OpH.assign (v := .ptr _ _) rfl | exact OpH.assign (v := .cptr _) rfl | exact OpH.assign (v := .cloB _ _) rfl | exact OpH.assign (v := .clo _ _) rfl | exact OpH.assign (v := .pr _) rfl | exact OpH.assign (v := .arow _) rfl | exact OpH.assign (v := .aptr _ _ _ _) rfl | exact OpH.assign (v := .asub _ _ _ _) rfl | exact OpH.assign (v := .tup _) rfl | exact loadC6 (t := 43) rfl (by kernel_rfl) | exact loadB6 (t := 43) rfl rfl (by kernel_rfl) rfl | exact OpH.un rfl un_not | exact OpH.un rfl (un_neg (by omega)) | exact OpH.move (v := .val _) rfl | exact OpH.move (v := .sl _ _) rfl | exact OpH.move (v := .row _ _ _ _) rfl | exact OpH.move (v := .full _ _) rfl | exact OpH.move (v := .ptr _ _) rfl | exact OpH.move (v := .cptr _) rfl | exact OpH.move (v := .cloB _ _) rfl | exact OpH.move (v := .clo _ _) rfl | exact OpH.move (v := .pr _) rfl | exact OpH.move (v := .arow _) rfl | exact OpH.move (v := .aptr _ _ _ _) rfl | exact OpH.move (v := .asub _ _ _ _) rfl | exact OpH.move (v := .tup _) rfl | exact OpH.extract (v := .val _) rfl rfl (fun _ h => by cases h) | exact OpH.extract (v := .sl _ _) rfl rfl (fun _ h => by cases h) | exact OpH.extract (v := .row _ _ _ _) rfl rfl (fun _ h => by cases h) | exact OpH.extract (v := .full _ _) rfl rfl (fun _ h => by cases h) | exact OpH.bin rfl rfl (pb_lss_t (by omega)) | exact OpH.bin rfl rfl (pb_lss_f (by omega)) | exact OpH.bin rfl rfl (pb_lss) | exact OpH.pick (b := true) (v := .val _) rfl rfl | exact OpH.pick (b := false) (v := .val _) rfl rfl | exact OpH.pick (b := true) (v := .sl _ _) rfl rfl | exact OpH.pick (b := false) (v := .sl _ _) rfl rfl | exact OpH.pick (b := true) (v := .row _ _ _ _) rfl rfl | exact OpH.pick (b := false) (v := .row _ _ _ _) rfl rfl | exact OpH.pick (b := true) (v := .full _ _) rfl rfl | exact OpH.pick (b := false) (v := .full _ _) rfl rfl | exact OpH.pickV rfl rfl rfl | exact OpH.indexS (t := 31) (k := 7) rfl slP rfl rfl (by kernel_rfl) (map_at bd) rfl | exact OpH.fieldC (s := 90) (f := 0) (off := 0) rfl (by kernel_rfl) rfl | exact OpH.fieldB (s := 90) (f := 0) (off := 0) rfl (by kernel_rfl) rfl | exact OpH.loadC1 (t := 4) rfl (by kernel_rfl) rfl | exact OpH.loadB1 (t := 4) rfl rfl (by kernel_rfl) rfl | exact OpH.bin rfl rfl (pb_inc (by omega)) | exact OpH.bin rfl rfl (pb_addN rfl (by omega)) | exact OpH.bin rfl rfl (pb_add (by omega)) | exact OpH.bin rfl rfl (pb_addw) | exact OpH.lenM (t := 37) rfl (.sl _ _) (by kernel_rfl) | exact OpH.lenM (t := 37) rfl (.row _ _ _ _) (by kernel_rfl) | exact OpH.lenM (t := 37) rfl (.full _ _) (by kernel_rfl) | exact OpH.len (t := 37) rfl slP (by kernel_rfl) | exact OpH.lenNil (t := 37) rfl (by kernel_rfl) | exact OpH.bin rfl rfl (pb_eql_t (by first | omega | assumption)) | exact OpH.bin rfl rfl (pb_eql_f (by first | omega | assumption)) | exact OpH.bin rfl rfl (pb_eql) | exact OpH.bin rfl rfl (pb_gtr_t (by omega)) | exact OpH.bin rfl rfl (pb_gtr_f (by omega)) | exact OpH.bin rfl rfl (pb_gtr)) : p := h
set_option maxRecDepth 100000 in
set_option maxHeartbeats 4000000 in
theorem g_r13Insert (l : List Slt) (x : Ent) (hok : ∀ s ∈ l, s.e.w.ok) (hx : x.w.ok) (hl : l.length ≤ 60000) : Good Try.prog 15 [.sl 7 (l.map encS), .val (.agg #[.int .u64 x.w.v.x, .int .u64 x.w.v.y, .int .u64 x.w.m.x, .int .u64 x.w.m.y, .int .i64 x.len, .int .i64 x.act])] (.tup [.sl 8 ((insC l x).1.map encX), .val (.int .i64 (insC l x).2)]) := by
  have gR := g_r8Right x hx
  have gG := g_r13Gap l x hok hx (by omega)
  have gE := g_r8Entries l (by omega)
  have gO := g_r5Ordered (entsS l) (fun y hy => by
    unfold entsS at hy
    obtain ⟨s, hs, rfl⟩ := List.mem_map.1 hy
    exact hok s (List.mem_filter.1 hs).1)
  have hfb := gapFrom_bound l x
  have htb := gapTo_bound l x
  have hvt : gapTo l x < l.length → (nth l (gapTo l x)).valid = true := fun h => by
    have := (loF_spec l x (Nat.zero_le _)).2.2.2 h
    unfold loP at this
    rw [Bool.and_eq_true] at this
    exact this.1
  have hvf : 0 < (gapFrom l x).toNat → (nth l ((gapFrom l x).toNat - 1)).valid = true := fun h => by
    have hq : gapFrom l x = lastTo (hiP l x) l.length + 1 := rfl
    have := (lastTo_spec (hiP l x) l.length).2 (by omega)
    rw [show (lastTo (hiP l x) l.length).toNat = (gapFrom l x).toNat - 1 by omega] at this
    unfold hiP at this
    rw [Bool.and_eq_true] at this
    exact this.1
  have gB := g_r13Below l x (gapTo l x) htb hvt hok hl
  have gA := g_r13Above l x (gapFrom l x).toNat (by omega) hvf hok hl
  rw [Int.toNat_of_nonneg hfb.1] at gA
  have hins : insC l x = insC l x := rfl
  conv at hins => rhs; unfold insC
  generalize insC l x = r at hins ⊢
  cases hr : eRight x with
  | false =>
    rw [if_pos hr] at hins
    rw [hins]
    rw [hr] at gR
    refine Good.of_body (T := [(0, _), (1, _)]) Try.func15 rfl rfl rfl ?_
    intro K0 w0 hno
    repeat' (first | (refine CT.sub (S' := ⟨[(4, .sl 8 (([] : List Wrt).map encX)), (5, .val (.int .i64 1))], [], []⟩) ?_ (CT.ret ?_)) | refine CT.seqR ?_ | refine CT.region ?_ | refine CT.seq1 ?_ | refine CT.block ?_ | refine CT.condT rfl ?_ | refine CT.condF rfl ?_ | refine CT.condD rfl (fun _ => ?_) (fun _ => ?_) | refine CT.condN rfl (fun _ => ?_) (fun _ => ?_) | refine CT.cond rfl (fun _ => ?_) (fun _ => ?_) | refine CT.skip ?_ | refine CT.exit ?_ | refine CT.ret ?_ | refine LT.nil ?_ | refine HT.nil1 ?_ | (refine LT.consT ?_; (first | refine T.box (e := 43) (cs := [.val _, .val _, .val _, .val _, .val _, .val _]) rfl rfl (by decide) rfl rfl ?_)) | ((first | apply LT.cons1 | (apply LT.guard1; rfl; rfl; rfl; decide)); (first | exact OpH.callF Try.func55 rfl rfl rfl gR rfl | exact arm15_1); decide) | refine LT.skip1 rfl rfl rfl (by decide) (by decide) ?_ | refine LT.skip2 rfl rfl (by decide) (by decide) ?_ | refine LT.partD rfl rfl (fun _ => ?_) (fun _ => ?_) | refine LT.partN rfl rfl (fun _ => ?_) (fun _ => ?_) | (refine LT.part1 rfl rfl (fun h => ?_) (fun h => ?_); (fail_if_success exact absurd h (by decide)); rotate_left; (fail_if_success exact absurd h (by decide)); rotate_left))
    · (apply Sub.mk; (focus (repeat (first | exact .nil | refine .other (.keep rfl rfl) ?_ | refine .other (.aref rfl rfl rfl) ?_ | refine .other (.val rfl (by first | rfl | (congr 1; first | omega | assumption | (symm; assumption)) | (simp; omega))) ?_ | refine .other .dead ?_ | refine .other (.sl rfl (.row _ _ _ _) rfl) ?_ | refine .other (.sl rfl (.sl _ _) rfl) ?_ | refine .other (.sl rfl (.full _ _) rfl) ?_ | refine .other (.slNil rfl rfl) ?_ | refine .rowNil rfl rfl rfl ?_ | refine .row rfl (by first | rfl | assumption | (rw [← List.map_append]; first | done | rfl | congr 1)) rfl rfl ?_))); (focus (repeat (first | exact .nil | refine KeepB.same rfl rfl rfl ?_ | refine KeepB.sameA rfl rfl rfl ?_))); (focus (repeat (first | exact .nil | refine KeepA.cons rfl (by first | rfl | assumption | exact List.map_set | exact List.map_set.symm | (rw [← List.map_append]; first | done | rfl | congr 1) | (congr 1; first | omega | assumption)) ?_))))
    · refine ⟨by first | exact .inl rfl | exact .inr rfl, _, (.cons (.tmp 4 (A := .sl _ _) rfl (fun _ h => by cases h)) (.cons (.tmp 5 (A := .val _) rfl (fun _ h => by cases h)) .nil)), ?_, rfl⟩
      rfl
  | true =>
    rw [if_neg (by rw [hr]; decide)] at hins
    rw [hr] at gR
    by_cases hk : ordered (entsS l) = false ∨ (gapTo l x : Int) < gapFrom l x
    · rw [if_pos hk] at hins
      rw [hins]
      refine Good.of_body (T := [(0, _), (1, _)]) Try.func15 rfl rfl rfl ?_
      intro K0 w0 hno
      cases ho : ordered (entsS l) with
      | false =>
        rw [ho] at gO
        repeat' (first | (refine LT.consT ?_; refine T.callRow Try.func22 rfl rfl rfl gE (by decide) rfl ?_) | (refine CT.sub (S' := ⟨[(4, .sl 8 (([] : List Wrt).map encX)), (5, .val (.int .i64 7))], [], []⟩) ?_ (CT.ret ?_)) | refine CT.seqR ?_ | refine CT.region ?_ | refine CT.seq1 ?_ | refine CT.block ?_ | refine CT.condT rfl ?_ | refine CT.condF rfl ?_ | refine CT.condD rfl (fun _ => ?_) (fun _ => ?_) | refine CT.condN rfl (fun _ => ?_) (fun _ => ?_) | refine CT.cond rfl (fun _ => ?_) (fun _ => ?_) | refine CT.skip ?_ | refine CT.exit ?_ | refine CT.ret ?_ | refine LT.nil ?_ | refine HT.nil1 ?_ | (refine LT.consT ?_; (first | refine T.box (e := 43) (cs := [.val _, .val _, .val _, .val _, .val _, .val _]) rfl rfl (by decide) rfl rfl ?_)) | ((first | apply LT.cons1 | (apply LT.guard1; rfl; rfl; rfl; decide)); (first | exact OpH.callF Try.func55 rfl rfl rfl gR rfl | exact OpH.callF Try.func20 rfl rfl rfl gG rfl | exact OpH.callF Try.func21 rfl rfl rfl gO rfl | exact arm15_1); decide) | refine LT.skip1 rfl rfl rfl (by decide) (by decide) ?_ | refine LT.skip2 rfl rfl (by decide) (by decide) ?_ | refine LT.partD rfl rfl (fun _ => ?_) (fun _ => ?_) | refine LT.partN rfl rfl (fun _ => ?_) (fun _ => ?_) | (refine LT.part1 rfl rfl (fun h => ?_) (fun h => ?_); (fail_if_success exact absurd h (by decide)); rotate_left; (fail_if_success exact absurd h (by decide)); rotate_left))
        · (apply Sub.mk; (focus (repeat (first | exact .nil | refine .other (.keep rfl rfl) ?_ | refine .other (.aref rfl rfl rfl) ?_ | refine .other (.val rfl (by first | rfl | (congr 1; first | omega | assumption | (symm; assumption)) | (simp; omega))) ?_ | refine .other .dead ?_ | refine .other (.sl rfl (.row _ _ _ _) rfl) ?_ | refine .other (.sl rfl (.sl _ _) rfl) ?_ | refine .other (.sl rfl (.full _ _) rfl) ?_ | refine .other (.slNil rfl rfl) ?_ | refine .rowNil rfl rfl rfl ?_ | refine .row rfl (by first | rfl | assumption | (rw [← List.map_append]; first | done | rfl | congr 1)) rfl rfl ?_))); (focus (repeat (first | exact .nil | refine KeepB.same rfl rfl rfl ?_ | refine KeepB.sameA rfl rfl rfl ?_))); (focus (repeat (first | exact .nil | refine KeepA.cons rfl (by first | rfl | assumption | exact List.map_set | exact List.map_set.symm | (rw [← List.map_append]; first | done | rfl | congr 1) | (congr 1; first | omega | assumption)) ?_))))
        · refine ⟨by first | exact .inl rfl | exact .inr rfl, _, (.cons (.tmp 4 (A := .sl _ _) rfl (fun _ h => by cases h)) (.cons (.tmp 5 (A := .val _) rfl (fun _ h => by cases h)) .nil)), ?_, rfl⟩
          rfl
      | true =>
        rw [ho] at gO
        have hlt : (gapTo l x : Int) < gapFrom l x := by
          rcases hk with h | h
          · rw [ho] at h; cases h
          · exact h
        repeat' (first | (refine LT.consT ?_; refine T.callRow Try.func22 rfl rfl rfl gE (by decide) rfl ?_) | (refine CT.sub (S' := ⟨[(4, .sl 8 (([] : List Wrt).map encX)), (5, .val (.int .i64 7))], [], []⟩) ?_ (CT.ret ?_)) | refine CT.seqR ?_ | refine CT.region ?_ | refine CT.seq1 ?_ | refine CT.block ?_ | refine CT.condT rfl ?_ | refine CT.condF rfl ?_ | refine CT.condD rfl (fun _ => ?_) (fun _ => ?_) | refine CT.condN rfl (fun _ => ?_) (fun _ => ?_) | refine CT.cond rfl (fun _ => ?_) (fun _ => ?_) | refine CT.skip ?_ | refine CT.exit ?_ | refine CT.ret ?_ | refine LT.nil ?_ | refine HT.nil1 ?_ | (refine LT.consT ?_; (first | refine T.box (e := 43) (cs := [.val _, .val _, .val _, .val _, .val _, .val _]) rfl rfl (by decide) rfl rfl ?_)) | ((first | apply LT.cons1 | (apply LT.guard1; rfl; rfl; rfl; decide)); (first | exact OpH.callF Try.func55 rfl rfl rfl gR rfl | exact OpH.callF Try.func20 rfl rfl rfl gG rfl | exact OpH.callF Try.func21 rfl rfl rfl gO rfl | exact arm15_1); decide) | refine LT.skip1 rfl rfl rfl (by decide) (by decide) ?_ | refine LT.skip2 rfl rfl (by decide) (by decide) ?_ | refine LT.partD rfl rfl (fun _ => ?_) (fun _ => ?_) | refine LT.partN rfl rfl (fun _ => ?_) (fun _ => ?_) | (refine LT.part1 rfl rfl (fun h => ?_) (fun h => ?_); (fail_if_success exact absurd h (by decide)); rotate_left; (fail_if_success exact absurd h (by decide)); rotate_left))
        · (apply Sub.mk; (focus (repeat (first | exact .nil | refine .other (.keep rfl rfl) ?_ | refine .other (.aref rfl rfl rfl) ?_ | refine .other (.val rfl (by first | rfl | (congr 1; first | omega | assumption | (symm; assumption)) | (simp; omega))) ?_ | refine .other .dead ?_ | refine .other (.sl rfl (.row _ _ _ _) rfl) ?_ | refine .other (.sl rfl (.sl _ _) rfl) ?_ | refine .other (.sl rfl (.full _ _) rfl) ?_ | refine .other (.slNil rfl rfl) ?_ | refine .rowNil rfl rfl rfl ?_ | refine .row rfl (by first | rfl | assumption | (rw [← List.map_append]; first | done | rfl | congr 1)) rfl rfl ?_))); (focus (repeat (first | exact .nil | refine KeepB.same rfl rfl rfl ?_ | refine KeepB.sameA rfl rfl rfl ?_))); (focus (repeat (first | exact .nil | refine KeepA.cons rfl (by first | rfl | assumption | exact List.map_set | exact List.map_set.symm | (rw [← List.map_append]; first | done | rfl | congr 1) | (congr 1; first | omega | assumption)) ?_))))
        · refine ⟨by first | exact .inl rfl | exact .inr rfl, _, (.cons (.tmp 4 (A := .sl _ _) rfl (fun _ h => by cases h)) (.cons (.tmp 5 (A := .val _) rfl (fun _ h => by cases h)) .nil)), ?_, rfl⟩
          rfl
    · rw [if_neg hk] at hins
      have ho : ordered (entsS l) = true := by
        cases h : ordered (entsS l) with
        | true => rfl
        | false => exact absurd (.inl h) hk
      have hft : gapFrom l x ≤ gapTo l x := by
        refine Classical.byContradiction fun h => hk (.inr (by omega))
      rw [ho] at gO
      clear hk ho hvt hvf
      have hl1 := wrO_length l x (wayB l (gapTo l x))
      have hl2 := wrO_length l x (wayA l (gapFrom l x - 1))
      have hn1 : 0 < (wayB l (gapTo l x)).length → wrO l x (wayB l (gapTo l x)) = writesOf l x (wayB l (gapTo l x)) := wrO_ne l x
      have hn2 : 0 < (wayA l (gapFrom l x - 1)).length → wrO l x (wayA l (gapFrom l x - 1)) = writesOf l x (wayA l (gapFrom l x - 1)) := wrO_ne l x
      have hle1 : (wayB l (gapTo l x)).length ≤ l.length + 1 + 1 := wayG_length _ _
      have hle2 : (wayA l (gapFrom l x - 1)).length ≤ l.length + 1 + 1 := wayG_length _ _
      generalize wrO l x (wayB l (gapTo l x)) = WB at gB hl1 hn1
      generalize wrO l x (wayA l (gapFrom l x - 1)) = WA at gA hl2 hn2
      generalize wayB l (gapTo l x) = wb at hins hl1 hn1 hle1
      generalize wayA l (gapFrom l x - 1) = wa at hins hl2 hn2 hle2
      obtain ⟨gf, hgf⟩ : ∃ gf : Nat, gapFrom l x = gf := ⟨(gapFrom l x).toNat, by omega⟩
      rw [hgf] at hins gG gA hfb hft
      rw [Int.toNat_natCast] at hins
      generalize gapTo l x = gt at hins gG gB htb hft
      refine Good.of_body (T := [(0, _), (1, _)]) Try.func15 rfl rfl rfl ?_
      intro K0 w0 hno
      repeat' (first | (refine LT.consT ?_; refine T.callRow Try.func22 rfl rfl rfl gE (by decide) rfl ?_) | refine CT.seqR ?_ | refine CT.region ?_ | refine CT.seq1 ?_ | refine CT.block ?_ | refine CT.condT rfl ?_ | refine CT.condF rfl ?_ | refine CT.condD rfl (fun _ => ?_) (fun _ => ?_) | refine CT.condN rfl (fun _ => ?_) (fun _ => ?_) | refine CT.cond rfl (fun _ => ?_) (fun _ => ?_) | refine CT.skip ?_ | refine CT.exit ?_ | refine CT.ret ?_ | refine LT.nil ?_ | refine HT.nil1 ?_ | (refine LT.consT ?_; (first | refine T.box (e := 43) (cs := [.val _, .val _, .val _, .val _, .val _, .val _]) rfl rfl (by decide) rfl rfl ?_)) | ((first | apply LT.cons1 | (apply LT.guard1; rfl; rfl; rfl; decide)); (first | exact OpH.callF Try.func55 rfl rfl rfl gR rfl | exact OpH.callF Try.func20 rfl rfl rfl gG rfl | exact OpH.callF Try.func21 rfl rfl rfl gO rfl | exact arm15_1); decide) | refine LT.skip1 rfl rfl rfl (by decide) (by decide) ?_ | refine LT.skip2 rfl rfl (by decide) (by decide) ?_ | refine LT.partD rfl rfl (fun _ => ?_) (fun _ => ?_) | refine LT.partN rfl rfl (fun _ => ?_) (fun _ => ?_) | (refine LT.part1 rfl rfl (fun h => ?_) (fun h => ?_); (fail_if_success exact absurd h (by decide)); rotate_left; (fail_if_success exact absurd h (by decide)); rotate_left))
      refine CT.loopX (fun i : Nat => (⟨[(0, .sl 7 (l.map encS)), (3, .ptr 3 0), (6, .val (.int .i64 gf)), (7, .val (.int .i64 gt)), (8, .val (.int .i64 i))], [(3, (encE x).map AV.val)], []⟩ : St))
        (fun i => gf ≤ i ∧ i ≤ gt ∧ emFirst l gf i = -1) (fun i => gt - i) gf ?_ ⟨by omega, by omega, emFirst_start l gf⟩ ?_
      · (apply Sub.mk; (focus (repeat (first | exact .nil | refine .other (.keep rfl rfl) ?_ | refine .other (.aref rfl rfl rfl) ?_ | refine .other (.val rfl (by first | rfl | (congr 1; first | omega | assumption | (symm; assumption)) | (simp; omega))) ?_ | refine .other .dead ?_ | refine .other (.sl rfl (.row _ _ _ _) rfl) ?_ | refine .other (.sl rfl (.sl _ _) rfl) ?_ | refine .other (.sl rfl (.full _ _) rfl) ?_ | refine .other (.slNil rfl rfl) ?_ | refine .rowNil rfl rfl rfl ?_ | refine .row rfl (by first | rfl | assumption | (rw [← List.map_append]; first | done | rfl | congr 1)) rfl rfl ?_))); (focus (repeat (first | exact .nil | refine KeepB.same rfl rfl rfl ?_ | refine KeepB.sameA rfl rfl rfl ?_))); (focus (repeat (first | exact .nil | refine KeepA.cons rfl (by first | rfl | assumption | exact List.map_set | exact List.map_set.symm | (rw [← List.map_append]; first | done | rfl | congr 1) | (congr 1; first | omega | assumption)) ?_))))
      rintro i ⟨h1, h2, h3⟩
      by_cases hlt : i < gt
      · have hil : i < l.length := by omega
        have hst := emFirst_step l h1
        cases hs : l[i] with
        | mk v e =>
          have hat := slot_at hil hs
          rw [nth_is hil hs, h3] at hst
          cases v with
          | true =>
            rw [if_pos (.inl rfl)] at hst
            repeat' (first | refine CT.seqR ?_ | refine CT.region ?_ | refine CT.seq1 ?_ | refine CT.block ?_ | refine CT.condT rfl ?_ | refine CT.condF rfl ?_ | refine CT.condD rfl (fun _ => ?_) (fun _ => ?_) | refine CT.condN rfl (fun _ => ?_) (fun _ => ?_) | refine CT.cond rfl (fun _ => ?_) (fun _ => ?_) | refine CT.skip ?_ | refine CT.exit ?_ | refine CT.ret ?_ | refine LT.nil ?_ | refine HT.nil1 ?_ | (refine LT.consT ?_; (first | refine T.box (e := 43) (cs := [.val _, .val _, .val _, .val _, .val _, .val _]) rfl rfl (by decide) rfl rfl ?_)) | ((first | apply LT.cons1 | (apply LT.guard1; rfl; rfl; rfl; decide)); (first | exact OpH.indexS (t := 31) (k := 7) (j := i) rfl slP rfl rfl (by kernel_rfl) hat rfl | exact arm15_1); decide) | refine LT.skip1 rfl rfl rfl (by decide) (by decide) ?_ | refine LT.skip2 rfl rfl (by decide) (by decide) ?_ | refine LT.partD rfl rfl (fun _ => ?_) (fun _ => ?_) | refine LT.partN rfl rfl (fun _ => ?_) (fun _ => ?_) | (refine LT.part1 rfl rfl (fun h => ?_) (fun h => ?_); (fail_if_success exact absurd h (by decide)); rotate_left; (fail_if_success exact absurd h (by decide)); rotate_left))
            refine ⟨i + 1, ⟨by omega, by omega, hst⟩, by omega, ?_⟩
            (apply Sub.mk; (focus (repeat (first | exact .nil | refine .other (.keep rfl rfl) ?_ | refine .other (.aref rfl rfl rfl) ?_ | refine .other (.val rfl (by first | rfl | (congr 1; first | omega | assumption | (symm; assumption)) | (simp; omega))) ?_ | refine .other .dead ?_ | refine .other (.sl rfl (.row _ _ _ _) rfl) ?_ | refine .other (.sl rfl (.sl _ _) rfl) ?_ | refine .other (.sl rfl (.full _ _) rfl) ?_ | refine .other (.slNil rfl rfl) ?_ | refine .rowNil rfl rfl rfl ?_ | refine .row rfl (by first | rfl | assumption | (rw [← List.map_append]; first | done | rfl | congr 1)) rfl rfl ?_))); (focus (repeat (first | exact .nil | refine KeepB.same rfl rfl rfl ?_ | refine KeepB.sameA rfl rfl rfl ?_))); (focus (repeat (first | exact .nil | refine KeepA.cons rfl (by first | rfl | assumption | exact List.map_set | exact List.map_set.symm | (rw [← List.map_append]; first | done | rfl | congr 1) | (congr 1; first | omega | assumption)) ?_))))
          | false =>
            rw [if_neg (by simp)] at hst
            have hem : emFirst l gf gt = i := by
              rcases emFirst_spec l (show gf ≤ gt by omega) with ⟨g1, g2⟩ | ⟨r', g1, g2, g3, g4, g5⟩
              · have := g2 i h1 hlt
                rw [nth_is hil hs] at this; cases this
              · rw [g1]
                congr 1
                rcases emFirst_spec l h1 with ⟨_, q2⟩ | ⟨q, q1, _⟩
                · rcases Nat.lt_trichotomy r' i with c | c | c
                  · rw [q2 r' g2 c] at g4; cases g4
                  · exact c
                  · have := g5 i h1 c
                    rw [nth_is hil hs] at this; cases this
                · rw [q1] at h3; omega
            rw [hem, if_pos (by omega)] at hins
            have gN := g_r13end0 l x i (by omega)
            rw [hins]
            dsimp only
            generalize writesOf l x [(i : Int)] = ws at gN ⊢
            repeat' (first | (refine LT.consT ?_; refine T.callRow Try.func56 rfl rfl rfl gN (by decide) rfl ?_) | (refine CT.sub (S' := ⟨[(4, .sl 8 (ws.map encX)), (5, .val (.int .i64 0))], [], []⟩) ?_ (CT.ret ?_)) | refine CT.seqR ?_ | refine CT.region ?_ | refine CT.seq1 ?_ | refine CT.block ?_ | refine CT.condT rfl ?_ | refine CT.condF rfl ?_ | refine CT.condD rfl (fun _ => ?_) (fun _ => ?_) | refine CT.condN rfl (fun _ => ?_) (fun _ => ?_) | refine CT.cond rfl (fun _ => ?_) (fun _ => ?_) | refine CT.skip ?_ | refine CT.exit ?_ | refine CT.ret ?_ | refine LT.nil ?_ | refine HT.nil1 ?_ | (refine LT.consT ?_; (first | refine T.box (e := 43) (cs := [.val _, .val _, .val _, .val _, .val _, .val _]) rfl rfl (by decide) rfl rfl ?_)) | ((first | apply LT.cons1 | (apply LT.guard1; rfl; rfl; rfl; decide)); (first | exact OpH.indexS (t := 31) (k := 7) (j := i) rfl slP rfl rfl (by kernel_rfl) hat rfl | exact arm15_1); decide) | refine LT.skip1 rfl rfl rfl (by decide) (by decide) ?_ | refine LT.skip2 rfl rfl (by decide) (by decide) ?_ | refine LT.partD rfl rfl (fun _ => ?_) (fun _ => ?_) | refine LT.partN rfl rfl (fun _ => ?_) (fun _ => ?_) | (refine LT.part1 rfl rfl (fun h => ?_) (fun h => ?_); (fail_if_success exact absurd h (by decide)); rotate_left; (fail_if_success exact absurd h (by decide)); rotate_left))
            · (apply Sub.mk; (focus (repeat (first | exact .nil | refine .other (.keep rfl rfl) ?_ | refine .other (.aref rfl rfl rfl) ?_ | refine .other (.val rfl (by first | rfl | (congr 1; first | omega | assumption | (symm; assumption)) | (simp; omega))) ?_ | refine .other .dead ?_ | refine .other (.sl rfl (.row _ _ _ _) rfl) ?_ | refine .other (.sl rfl (.sl _ _) rfl) ?_ | refine .other (.sl rfl (.full _ _) rfl) ?_ | refine .other (.slNil rfl rfl) ?_ | refine .rowNil rfl rfl rfl ?_ | refine .row rfl (by first | rfl | assumption | (rw [← List.map_append]; first | done | rfl | congr 1)) rfl rfl ?_))); (focus (repeat (first | exact .nil | refine KeepB.same rfl rfl rfl ?_ | refine KeepB.sameA rfl rfl rfl ?_))); (focus (repeat (first | exact .nil | refine KeepA.cons rfl (by first | rfl | assumption | exact List.map_set | exact List.map_set.symm | (rw [← List.map_append]; first | done | rfl | congr 1) | (congr 1; first | omega | assumption)) ?_))))
            · refine ⟨by first | exact .inl rfl | exact .inr rfl, _, (.cons (.tmp 4 (A := .sl _ _) rfl (fun _ h => by cases h)) (.cons (.tmp 5 (A := .val _) rfl (fun _ h => by cases h)) .nil)), ?_, rfl⟩
              rfl
      · obtain rfl : i = gt := by omega
        rw [h3, if_neg (by omega)] at hins
        by_cases hz : wb.length + wa.length = 0
        · rw [if_pos hz] at hins
          rw [hins]
          have c1 : WB.length = 0 := by omega
          have c2 : WA.length = 0 := by omega
          repeat' (first | (refine CT.sub (S' := ⟨[(4, .sl 8 (([] : List Wrt).map encX)), (5, .val (.int .i64 3))], [], []⟩) ?_ (CT.ret ?_)) | refine CT.seqR ?_ | refine CT.region ?_ | refine CT.seq1 ?_ | refine CT.block ?_ | refine CT.condT rfl ?_ | refine CT.condF rfl ?_ | refine CT.condD rfl (fun _ => ?_) (fun _ => ?_) | refine CT.condN rfl (fun _ => ?_) (fun _ => ?_) | refine CT.cond rfl (fun _ => ?_) (fun _ => ?_) | refine CT.skip ?_ | refine CT.exit ?_ | refine CT.ret ?_ | refine LT.nil ?_ | refine HT.nil1 ?_ | (refine LT.consT ?_; (first | refine T.box (e := 43) (cs := [.val _, .val _, .val _, .val _, .val _, .val _]) rfl rfl (by decide) rfl rfl ?_)) | ((first | apply LT.cons1 | (apply LT.guard1; rfl; rfl; rfl; decide)); (first | exact OpH.callF Try.func57 rfl rfl rfl gB rfl | exact OpH.callF Try.func58 rfl rfl rfl gA rfl | exact arm15_1); decide) | refine LT.skip1 rfl rfl rfl (by decide) (by decide) ?_ | refine LT.skip2 rfl rfl (by decide) (by decide) ?_ | refine LT.partD rfl rfl (fun _ => ?_) (fun _ => ?_) | refine LT.partN rfl rfl (fun _ => ?_) (fun _ => ?_) | (refine LT.part1 rfl rfl (fun h => ?_) (fun h => ?_); (fail_if_success exact absurd h (by decide)); rotate_left; (fail_if_success exact absurd h (by decide)); rotate_left))
          · (apply Sub.mk; (focus (repeat (first | exact .nil | refine .other (.keep rfl rfl) ?_ | refine .other (.aref rfl rfl rfl) ?_ | refine .other (.val rfl (by first | rfl | (congr 1; first | omega | assumption | (symm; assumption)) | (simp; omega))) ?_ | refine .other .dead ?_ | refine .other (.sl rfl (.row _ _ _ _) rfl) ?_ | refine .other (.sl rfl (.sl _ _) rfl) ?_ | refine .other (.sl rfl (.full _ _) rfl) ?_ | refine .other (.slNil rfl rfl) ?_ | refine .rowNil rfl rfl rfl ?_ | refine .row rfl (by first | rfl | assumption | (rw [← List.map_append]; first | done | rfl | congr 1)) rfl rfl ?_))); (focus (repeat (first | exact .nil | refine KeepB.same rfl rfl rfl ?_ | refine KeepB.sameA rfl rfl rfl ?_))); (focus (repeat (first | exact .nil | refine KeepA.cons rfl (by first | rfl | assumption | exact List.map_set | exact List.map_set.symm | (rw [← List.map_append]; first | done | rfl | congr 1) | (congr 1; first | omega | assumption)) ?_))))
          · refine ⟨by first | exact .inl rfl | exact .inr rfl, _, (.cons (.tmp 4 (A := .sl _ _) rfl (fun _ h => by cases h)) (.cons (.tmp 5 (A := .val _) rfl (fun _ h => by cases h)) .nil)), ?_, rfl⟩
            rfl
        · rw [if_neg hz] at hins
          have hcase : (WB.length = 0 ∧ ¬ WA.length = 0) ∨ (¬ WB.length = 0 ∧ 0 < WA.length ∧ WA.length < WB.length) ∨ (¬ WB.length = 0 ∧ 0 < WA.length ∧ ¬ WA.length < WB.length) ∨ (¬ WB.length = 0 ∧ ¬ 0 < WA.length) := by omega
          rcases hcase with ⟨c1, c2⟩ | ⟨c1, c2, c3⟩ | ⟨c1, c2, c3⟩ | ⟨c1, c2⟩
          · rw [if_pos (.inl (by omega)), ← hn2 (by omega)] at hins
            rw [hins]
            repeat' (first | refine CT.seqR ?_ | refine CT.region ?_ | refine CT.seq1 ?_ | refine CT.block ?_ | refine CT.condT rfl ?_ | refine CT.condF rfl ?_ | refine CT.condD rfl (fun _ => ?_) (fun _ => ?_) | refine CT.condN rfl (fun _ => ?_) (fun _ => ?_) | refine CT.cond rfl (fun _ => ?_) (fun _ => ?_) | refine CT.skip ?_ | refine CT.exit ?_ | refine CT.ret ?_ | refine LT.nil ?_ | refine HT.nil1 ?_ | (refine LT.consT ?_; (first | refine T.box (e := 43) (cs := [.val _, .val _, .val _, .val _, .val _, .val _]) rfl rfl (by decide) rfl rfl ?_)) | ((first | apply LT.cons1 | (apply LT.guard1; rfl; rfl; rfl; decide)); (first | exact OpH.callF Try.func57 rfl rfl rfl gB rfl | exact OpH.callF Try.func58 rfl rfl rfl gA rfl | exact arm15_1); decide) | refine LT.skip1 rfl rfl rfl (by decide) (by decide) ?_ | refine LT.skip2 rfl rfl (by decide) (by decide) ?_ | refine LT.partD rfl rfl (fun _ => ?_) (fun _ => ?_) | refine LT.partN rfl rfl (fun _ => ?_) (fun _ => ?_) | (refine LT.part1 rfl rfl (fun h => ?_) (fun h => ?_); (fail_if_success exact absurd h (by decide)); rotate_left; (fail_if_success exact absurd h (by decide)); rotate_left))
            refine ⟨by first | exact .inl rfl | exact .inr rfl, _, (.cons (.tmp 4 (A := .sl _ _) rfl (fun _ h => by cases h)) (.cons (.tmp 5 (A := .val _) rfl (fun _ h => by cases h)) .nil)), ?_, rfl⟩
            rfl
          · rw [if_pos (.inr ⟨by omega, by omega⟩), ← hn2 (by omega)] at hins
            rw [hins]
            repeat' (first | refine CT.seqR ?_ | refine CT.region ?_ | refine CT.seq1 ?_ | refine CT.block ?_ | refine CT.condT rfl ?_ | refine CT.condF rfl ?_ | refine CT.condD rfl (fun _ => ?_) (fun _ => ?_) | refine CT.condN rfl (fun _ => ?_) (fun _ => ?_) | refine CT.cond rfl (fun _ => ?_) (fun _ => ?_) | refine CT.skip ?_ | refine CT.exit ?_ | refine CT.ret ?_ | refine LT.nil ?_ | refine HT.nil1 ?_ | (refine LT.consT ?_; (first | refine T.box (e := 43) (cs := [.val _, .val _, .val _, .val _, .val _, .val _]) rfl rfl (by decide) rfl rfl ?_)) | ((first | apply LT.cons1 | (apply LT.guard1; rfl; rfl; rfl; decide)); (first | exact OpH.callF Try.func57 rfl rfl rfl gB rfl | exact OpH.callF Try.func58 rfl rfl rfl gA rfl | exact arm15_1); decide) | refine LT.skip1 rfl rfl rfl (by decide) (by decide) ?_ | refine LT.skip2 rfl rfl (by decide) (by decide) ?_ | refine LT.partD rfl rfl (fun _ => ?_) (fun _ => ?_) | refine LT.partN rfl rfl (fun _ => ?_) (fun _ => ?_) | (refine LT.part1 rfl rfl (fun h => ?_) (fun h => ?_); (fail_if_success exact absurd h (by decide)); rotate_left; (fail_if_success exact absurd h (by decide)); rotate_left))
            refine ⟨by first | exact .inl rfl | exact .inr rfl, _, (.cons (.tmp 4 (A := .sl _ _) rfl (fun _ h => by cases h)) (.cons (.tmp 5 (A := .val _) rfl (fun _ h => by cases h)) .nil)), ?_, rfl⟩
            rfl
          all_goals
            rw [if_neg (by omega), ← hn1 (by omega)] at hins
            rw [hins]
            repeat' (first | refine CT.seqR ?_ | refine CT.region ?_ | refine CT.seq1 ?_ | refine CT.block ?_ | refine CT.condT rfl ?_ | refine CT.condF rfl ?_ | refine CT.condD rfl (fun _ => ?_) (fun _ => ?_) | refine CT.condN rfl (fun _ => ?_) (fun _ => ?_) | refine CT.cond rfl (fun _ => ?_) (fun _ => ?_) | refine CT.skip ?_ | refine CT.exit ?_ | refine CT.ret ?_ | refine LT.nil ?_ | refine HT.nil1 ?_ | (refine LT.consT ?_; (first | refine T.box (e := 43) (cs := [.val _, .val _, .val _, .val _, .val _, .val _]) rfl rfl (by decide) rfl rfl ?_)) | ((first | apply LT.cons1 | (apply LT.guard1; rfl; rfl; rfl; decide)); (first | exact OpH.callF Try.func57 rfl rfl rfl gB rfl | exact OpH.callF Try.func58 rfl rfl rfl gA rfl | exact arm15_1); decide) | refine LT.skip1 rfl rfl rfl (by decide) (by decide) ?_ | refine LT.skip2 rfl rfl (by decide) (by decide) ?_ | refine LT.partD rfl rfl (fun _ => ?_) (fun _ => ?_) | refine LT.partN rfl rfl (fun _ => ?_) (fun _ => ?_) | (refine LT.part1 rfl rfl (fun h => ?_) (fun h => ?_); (fail_if_success exact absurd h (by decide)); rotate_left; (fail_if_success exact absurd h (by decide)); rotate_left))
            refine ⟨by first | exact .inl rfl | exact .inr rfl, _, (.cons (.tmp 4 (A := .sl _ _) rfl (fun _ h => by cases h)) (.cons (.tmp 5 (A := .val _) rfl (fun _ h => by cases h)) .nil)), ?_, rfl⟩
            rfl
end Go.Proofs.Ytjmnnkhdadoehaa
