/- What law07.run does. -/
import Derived.Test.YtkfmammkbmhfaaaXTriF
import Derived.Test.YtkfmammkbmhfaaaXRefU
namespace Go.Proofs.Ytkfmammkbmhfaaa
set_option linter.unusedSimpArgs false
set_option linter.unusedVariables false
open Go Go.RowKit Go.Shelf
abbrev TS := List Nd × List Nat × List Rte
noncomputable def putS (w : Int) (s : TS) (r : Rte) : TS := by
  classical
  exact if (Canon r.p ∧ r.p.len ≤ w) ∧ 1 ≤ r.act ∧ r.act ≤ 255 then (putL s.1 s.2.1 r.p.a r.p.len.toNat r.act, putF s.1 s.2.1 r.p.a r.p.len.toNat, putR (dropR s.2.2 r.p) r) else s
noncomputable def dropS (w : Int) (s : TS) (p : Pfx) : TS := by
  classical
  exact if (Canon p ∧ p.len ≤ w) ∧ (findR s.2.2 p).isSome = true then ((dropLF s.1 s.2.1 p.a p.len.toNat).1, (dropLF s.1 s.2.1 p.a p.len.toNat).2, dropR s.2.2 p) else s
noncomputable def opS (w : Int) (s : TS) (o : Opr) : TS := if o.kind ≤ 0 then putS w s o.r else dropS w s o.r.p
noncomputable def runS (w : Int) (ops : List Opr) : TS := ops.foldl (opS w) ([nd0, nd0], [], [])
theorem runS_take (w : Int) (ops : List Opr) {k : Nat} (hk : k < ops.length) : runS w (ops.take (k + 1)) = opS w (runS w (ops.take k)) ops[k] := by
  unfold runS
  rw [List.take_succ_eq_append_getElem hk, List.foldl_append]; rfl
structure RI (w : Int) (k : Nat) (s : TS) : Prop where
  tri : Tri w s.1 s.2.1 s.2.2
  cnt : s.2.2.length ≤ k
  len : s.1.length ≤ 2 + 128 * k
theorem RI.start {w : Int} (hw : w = 32 ∨ w = 128) : RI w 0 ([nd0, nd0], [], []) := ⟨Tri.start hw, Nat.le_refl _, by decide⟩
section
variable {P : Program} {N : Nat} {K0 : Know} {w0 : Bas} {S : St} {d : Option Nat} {ty : TypeId} {pos : String} {aft : Array Edge} {g : Option (Nat × Bool)} {x y : Operand}
theorem loadC5 {t : TypeId} {a b c e f : Value} {r : List Value} (h : S.opv x = .cptr (a :: b :: c :: e :: f :: r)) (hk : rowSize P t = some 5) : OpH P N K0 w0 ⟨d, .load t x, ty, pos, aft, g⟩ S (.val (.agg #[a, b, c, e, f])) := OpH.loadC (cs := [a, b, c, e, f]) h hk rfl rfl
theorem loadB5 {t : TypeId} {p o : Nat} {cs : List AV} {a b c e f : Value} (h : S.opv x = .ptr p o) (hb : getB S.boxes p = some cs) (hk : rowSize P t = some 5) (hv : valCells ((cs.drop o).take 5) = some [a, b, c, e, f]) : OpH P N K0 w0 ⟨d, .load t x, ty, pos, aft, g⟩ S (.val (.agg #[a, b, c, e, f])) := OpH.loadB (vs := [a, b, c, e, f]) h hb hk hv rfl
theorem OpH.max2v (c : Int) {kk k2 : IntKind} {a b : Int} {ats : Array TypeId} (h1 : S.opv x = .val (.int kk a)) (h2 : S.opv y = .val (.int k2 b)) (hc : (if a < b then b else a) = c) : OpH P N K0 w0 ⟨d, .call { callee := .builtin .max, args := #[x, y], argTypes := ats }, ty, pos, aft, g⟩ S (.val (.int kk c)) := hc ▸ OpH.max2 h1 h2
theorem OpH.min2v (c : Int) {kk k2 : IntKind} {a b : Int} {ats : Array TypeId} (h1 : S.opv x = .val (.int kk a)) (h2 : S.opv y = .val (.int k2 b)) (hc : (if b < a then b else a) = c) : OpH P N K0 w0 ⟨d, .call { callee := .builtin .min, args := #[x, y], argTypes := ats }, ty, pos, aft, g⟩ S (.val (.int kk c)) := hc ▸ OpH.min2 h1 h2
end
attribute [local irreducible] OpH OpT LT CT HT Good GoodO
theorem put_step {w : Int} (hw : w = 32 ∨ w = 128) {k : Nat} (hk : k < 100) {s : TS} (h : RI w k s) (r : Rte) (hr : r.p.a.ok) : ∃ was err,
    GoodO Try.prog 10 [.ptr 1000 0, .val (.agg #[.int .u64 r.p.a.x, .int .u64 r.p.a.y, .int .i64 r.p.len, .int .i64 r.act])] [(1000, triBx w (s.2.2.length : Nat))] (triAr s.1 s.2.1) (.tup [.val (.bool was), .val (.int .i64 err)]) [(1000, triBx w ((putS w s r).2.2.length : Nat))] (triAr (putS w s r).1 (putS w s r).2.1) ∧
    Good Try.prog 43 [.val (.int .i64 w), .sl 4 (s.2.2.map encR), .val (doOp 0 r)] (.tup [.sl 4 ((putS w s r).2.2.map encR), .val (.bool was), .val (.int .i64 err)]) ∧ RI w (k + 1) (putS w s r) := by
  obtain ⟨l, f, rs⟩ := s
  obtain ⟨hT, hc, hl⟩ := h
  dsimp only at hT hc hl ⊢
  have hok : ∀ x ∈ rs, x.p.a.ok := fun x hx => (hT.tab.canon x hx).ok
  unfold putS
  by_cases hb : (Canon r.p ∧ r.p.len ≤ w) ∧ 1 ≤ r.act ∧ r.act ≤ 255
  · simp only [if_pos hb]
    have hn : r.p.len.toNat ≤ 128 := by have := hb.1.1.hi; omega
    have hlen := putL_len l f r.p.a hn r.act
    have hlp := putR_length (dropR rs r.p) r
    refine ⟨(findR rs r.p).isSome, 0, ?_, g_DoPutOk w hw rs r (by omega) hok hr hb, hT.put hb.1.1 hb.2 hb.1.2, ?_, by simp only; omega⟩
    · have hwas : (findR rs r.p).isSome = true ↔ ndAct l r.p ≠ 0 := by
        rw [hT.ndAct hb.1.1, getR_ne hT.tab.act]
        cases findR rs r.p <;> simp
      have gP := g_PutOk w (rs.length : Nat) hw l f hT.way r hr hb (findR rs r.p).isSome hwas (.inr (by omega)) (by omega) (by omega) (hT.putOK _ hn (by omega))
      have hcnt : (if (findR rs r.p).isSome = true then ((rs.length : Nat) : Int) else (rs.length : Nat) + 1) = ((putR (dropR rs r.p) r).length : Nat) := by
        rw [hlp]
        cases hf : findR rs r.p with
        | none => rw [dropR_none hf]; simp
        | some s => have := dropR_length hT.tab.sorted hf; simp; omega
      rw [hcnt] at gP
      exact gP
    · have := dropR_le rs r.p
      simp only
      omega
  · simp only [if_neg hb]
    exact ⟨false, 1, g_PutBad w _ hw l f r hr hb, g_DoPutBad w hw rs r (by omega) hr hb, hT, by simp only; omega, by simp only; omega⟩
theorem drop_step {w : Int} (hw : w = 32 ∨ w = 128) {k : Nat} (hk : k < 100) {s : TS} (h : RI w k s) (r : Rte) (hr : r.p.a.ok) : ∃ err,
    GoodO Try.prog 31 [.ptr 1000 0, .val (.agg #[.int .u64 r.p.a.x, .int .u64 r.p.a.y, .int .i64 r.p.len])] [(1000, triBx w (s.2.2.length : Nat))] (triAr s.1 s.2.1) (.val (.int .i64 err)) [(1000, triBx w ((dropS w s r.p).2.2.length : Nat))] (triAr (dropS w s r.p).1 (dropS w s r.p).2.1) ∧
    Good Try.prog 43 [.val (.int .i64 w), .sl 4 (s.2.2.map encR), .val (doOp 1 r)] (.tup [.sl 4 ((dropS w s r.p).2.2.map encR), .val (.bool false), .val (.int .i64 err)]) ∧ RI w (k + 1) (dropS w s r.p) := by
  obtain ⟨l, f, rs⟩ := s
  obtain ⟨hT, hc, hl⟩ := h
  dsimp only at hT hc hl ⊢
  unfold dropS
  have hfl := hT.free_le
  by_cases hb : Canon r.p ∧ r.p.len ≤ w
  · have hnd := (getR_ne hT.tab.act r.p)
    rw [← hT.ndAct hb.1] at hnd
    cases hf : findR rs r.p with
    | none =>
      simp only [hf, Option.isSome_none, Bool.false_eq_true, and_false, if_false]
      have hz : ndAct l r.p = 0 := Decidable.byContradiction fun hc => by obtain ⟨s, hs⟩ := hnd.1 hc; rw [hf] at hs; cases hs
      exact ⟨2, g_DropAbsent w _ hw l f hT.way r.p hr hb hz, g_DoDropAbsent w hw rs r (by omega) hr hb hf, hT, by simp only; omega, by simp only; omega⟩
    | some s =>
      have hbt : (Canon r.p ∧ r.p.len ≤ w) ∧ (some s).isSome = true := ⟨hb, rfl⟩
      simp only [if_pos hbt]
      have hdl := dropR_length hT.tab.sorted hf
      have gD := g_DropOk w (rs.length : Nat) hw l f hT.way r.p hr hb (hnd.2 ⟨s, hf⟩) (by omega) (by omega) (by omega) (by omega)
      rw [show ((rs.length : Nat) : Int) - 1 = ((dropR rs r.p).length : Nat) by omega] at gD
      refine ⟨0, gD, g_DoDropOk w hw rs r s (by omega) hr hb hf, hT.drop hf, by simp only; omega, ?_⟩
      simp only [dropLF_len]; omega
  · have : ¬ ((Canon r.p ∧ r.p.len ≤ w) ∧ (findR rs r.p).isSome = true) := fun h => hb h.1
    simp only [if_neg this]
    exact ⟨1, g_DropBad w _ hw l f r.p hr hb, g_DoDropBad w hw rs r (by omega) hr hb, hT, by simp only; omega, by simp only; omega⟩
theorem run_RI {w : Int} (hw : w = 32 ∨ w = 128) (ops : List Opr) (hl : ops.length ≤ 14) (hok : ∀ o ∈ ops, o.r.p.a.ok) : ∀ k, k ≤ ops.length → RI w k (runS w (ops.take k))
  | 0, _ => by rw [List.take_zero]; exact RI.start hw
  | k + 1, hk => by
    have ih := run_RI hw ops hl hok k (by omega)
    rw [runS_take w ops hk]
    unfold opS
    split
    · obtain ⟨_, _, _, _, h⟩ := put_step hw (by omega) ih ops[k].r (hok _ (List.getElem_mem hk)); exact h
    · obtain ⟨_, _, _, h⟩ := drop_step hw (by omega) ih ops[k].r (hok _ (List.getElem_mem hk)); exact h
theorem arm15_1r {p : Prop} (h : p := by first | exact OpH.assign (v := .val _) rfl | exact OpH.assign (v := .sl _ _) rfl | exact OpH.assign (v := .row _ _ _ _) rfl | exact OpH.assign (v := .full _ _) rfl | exact OpH.assign (v := .ptr _ _) rfl | exact OpH.assign (v := .cptr _) rfl | exact OpH.assign (v := .cloB _ _) rfl | exact OpH.assign (v := .clo _ _) rfl | exact OpH.assign (v := .pr _) rfl | exact OpH.assign (v := .arow _) rfl | exact OpH.assign (v := .aptr _ _ _ _) rfl | exact OpH.assign (v := .asub _ _ _ _) rfl | exact OpH.assign (v := .tup _) rfl | exact OpH.move (v := .val _) rfl | exact OpH.move (v := .sl _ _) rfl | exact OpH.move (v := .row _ _ _ _) rfl | exact OpH.move (v := .full _ _) rfl | exact OpH.move (v := .ptr _ _) rfl | exact OpH.move (v := .cptr _) rfl | exact OpH.move (v := .cloB _ _) rfl | exact OpH.move (v := .clo _ _) rfl | exact OpH.move (v := .pr _) rfl | exact OpH.move (v := .arow _) rfl | exact OpH.move (v := .aptr _ _ _ _) rfl | exact OpH.move (v := .asub _ _ _ _) rfl | exact OpH.move (v := .tup _) rfl | exact OpH.extract (v := .val _) rfl rfl (fun _ h => by cases h) | exact OpH.extract (v := .sl _ _) rfl rfl (fun _ h => by cases h) | exact OpH.extract (v := .row _ _ _ _) rfl rfl (fun _ h => by cases h) | exact OpH.extract (v := .full _ _) rfl rfl (fun _ h => by cases h) | exact OpH.extract (v := .ptr _ _) rfl rfl (fun _ h => by cases h) | exact OpH.bin rfl rfl (pb_neq_t (by first | omega | assumption)) | exact OpH.bin rfl rfl (pb_neq_f (by first | omega | assumption)) | exact OpH.bin rfl rfl (pb_neq) | exact OpH.eqNilB (t := 22) rfl (by kernel_rfl) | exact OpH.bin (xt := 22) rfl rfl (pb_eqlNil (by kernel_rfl)) | exact OpH.pick (b := true) (v := .val _) rfl rfl | exact OpH.pick (b := false) (v := .val _) rfl rfl | exact OpH.pick (b := true) (v := .sl _ _) rfl rfl | exact OpH.pick (b := false) (v := .sl _ _) rfl rfl | exact OpH.pick (b := true) (v := .row _ _ _ _) rfl rfl | exact OpH.pick (b := false) (v := .row _ _ _ _) rfl rfl | exact OpH.pick (b := true) (v := .full _ _) rfl rfl | exact OpH.pick (b := false) (v := .full _ _) rfl rfl | exact OpH.pickV rfl rfl rfl | exact OpH.lenM (t := 41) rfl (.sl _ _) (by kernel_rfl) | exact OpH.lenM (t := 41) rfl (.row _ _ _ _) (by kernel_rfl) | exact OpH.lenM (t := 41) rfl (.full _ _) (by kernel_rfl) | exact OpH.len (t := 41) rfl slP (by kernel_rfl) | exact OpH.lenNil (t := 41) rfl (by kernel_rfl) | exact OpH.lenA (t := 41) rfl rfl (by kernel_rfl) (List.length_map _) | exact OpH.lenA (t := 41) rfl rfl (by kernel_rfl) rfl | exact OpH.bin rfl rfl (pb_gtr_t (by omega)) | exact OpH.bin rfl rfl (pb_gtr_f (by omega)) | exact OpH.bin rfl rfl (pb_gtr) | exact OpH.bin rfl rfl (pb_lss_t (by omega)) | exact OpH.bin rfl rfl (pb_lss_f (by omega)) | exact OpH.bin rfl rfl (pb_lss) | exact OpH.indexS (t := 41) (k := 5) rfl slP rfl rfl (by kernel_rfl) (map_at bd) rfl | exact OpH.indexA (t := 41) (k := 5) rfl rfl rfl rfl (by kernel_rfl) bd | exact loadC5 (t := 85) rfl (by kernel_rfl) | exact loadB5 (t := 85) rfl rfl (by kernel_rfl) rfl | exact OpH.loadA (t := 85) (vs := [_, _, _, _, _]) rfl rfl rfl (map_at bd) (by kernel_rfl) rfl rfl | exact OpH.fieldC (s := 85) (f := 0) (off := 0) rfl (by kernel_rfl) rfl | exact OpH.fieldB (s := 85) (f := 0) (off := 0) rfl (by kernel_rfl) rfl | exact OpH.fieldA (s := 85) (f := 0) (off := 0) rfl (by kernel_rfl) rfl | exact OpH.loadC1 (t := 3) rfl (by kernel_rfl) rfl | exact OpH.loadB1 (t := 3) rfl rfl (by kernel_rfl) rfl | exact OpH.loadA1 (t := 3) rfl rfl rfl (map_at bd) (by kernel_rfl) rfl rfl | exact OpH.max2 rfl rfl | exact OpH.min2 rfl rfl | exact OpH.fieldC (s := 85) (f := 1) (off := 1) rfl (by kernel_rfl) rfl | exact OpH.fieldB (s := 85) (f := 1) (off := 1) rfl (by kernel_rfl) rfl | exact OpH.fieldA (s := 85) (f := 1) (off := 1) rfl (by kernel_rfl) rfl | exact loadC4 (t := 35) rfl (by kernel_rfl) | exact loadB4 (t := 35) rfl rfl (by kernel_rfl) rfl | exact OpH.loadA (t := 35) (vs := [_, _, _, _]) rfl rfl rfl (map_at bd) (by kernel_rfl) rfl rfl | exact build_89_0_1 rfl rfl | exact OpH.build (t := 89) (cells := #[_, _, _, _, _]) (by kernel_rfl) rfl | exact OpH.bin rfl rfl (pb_leq_t (by omega)) | exact OpH.bin rfl rfl (pb_leq_f (by omega)) | exact OpH.bin rfl rfl (pb_leq) | exact OpH.bin (xt := 4) rfl rfl (pb_of (pb_neqB (by kernel_rfl)) (nbeqB_f (by first | rfl | assumption))) | exact OpH.bin (xt := 4) rfl rfl (pb_neqB (by kernel_rfl)) | exact OpH.fieldC (s := 35) (f := 0) (off := 0) rfl (by kernel_rfl) rfl | exact OpH.fieldB (s := 35) (f := 0) (off := 0) rfl (by kernel_rfl) rfl | exact OpH.fieldA (s := 35) (f := 0) (off := 0) rfl (by kernel_rfl) rfl | exact loadC3 (t := 33) rfl (by kernel_rfl) | exact loadB3 (t := 33) rfl rfl (by kernel_rfl) rfl | exact OpH.loadA (t := 33) (vs := [_, _, _]) rfl rfl rfl (map_at bd) (by kernel_rfl) rfl rfl | exact OpH.bin rfl rfl (pb_inc (by omega)) | exact OpH.bin rfl rfl (pb_addN rfl (by omega)) | exact OpH.bin rfl rfl (pb_add (by omega)) | exact OpH.bin rfl rfl (pb_addw)) : p := h
set_option maxRecDepth 100000 in
set_option maxHeartbeats 4000000 in
theorem g_run (w : Int) (hw : w = 32 ∨ w = 128) (ops : List Opr) (hl : ops.length ≤ 14) (hok : ∀ o ∈ ops, o.r.p.a.ok) :
    GoodO Try.prog 15 [.val (.int .i64 w), .sl 5 (ops.map encO)] [] [] (.tup [.ptr 1000 0, .sl 4 ((runS w ops).2.2.map encR), .val (.bool true)]) [(1000, triBx w ((runS w ops).2.2.length : Nat))] (triAr (runS w ops).1 (runS w ops).2.1) := by
  have gN := g_New w hw
  have hRI := run_RI hw ops hl hok
  refine GoodO.of_body (T := [(0, _), (1, _)]) Try.func15 rfl rfl rfl rfl rfl ?_
  intro K0 w0 hno
  repeat' (first | (refine LT.consT ?_; refine T.callO Try.func9 rfl rfl gN rfl rfl rfl rfl rfl rfl (fun p _ _ => hno _ rfl) rfl rfl (by decide) ?_) | refine CT.seqR ?_ | refine CT.seqD (id := 8) 17 (by kernel_rfl) (by kernel_rfl) ?_ | refine CT.draw (id := 8) 17 (by kernel_rfl) (by kernel_rfl) ?_ | refine CT.region ?_ | refine CT.seq1 ?_ | refine CT.block ?_ | refine CT.condT rfl ?_ | refine CT.condF rfl ?_ | refine CT.condD rfl (fun _ => ?_) (fun _ => ?_) | refine CT.condN rfl (fun _ => ?_) (fun _ => ?_) | refine CT.cond rfl (fun _ => ?_) (fun _ => ?_) | refine CT.skip ?_ | refine CT.exit ?_ | refine CT.ret ?_ | refine LT.nil ?_ | refine HT.nil1 ?_ | (refine LT.consT ?_; (first | refine T.alloc (e := 85) (z := .agg #[.int .i64 0, .int .u64 0, .int .u64 0, .int .i64 0, .int .i64 0]) (cs := [.val (.int .i64 0), .val (.int .u64 0), .val (.int .u64 0), .val (.int .i64 0), .val (.int .i64 0)]) (by kernel_rfl) rfl (by decide) rfl rfl ?_ | refine T.storeA (t := 85) rfl rfl rfl rfl (map_at bd) (by kernel_rfl) (by kernel_rfl) (Nat.le_of_ble_eq_true (by kernel_rfl)) rfl rfl rfl ?_ | refine T.store (t := 85) rfl rfl rfl (by kernel_rfl) (by kernel_rfl) (Nat.le_of_ble_eq_true (by kernel_rfl)) rfl rfl ?_)) | ((first | apply LT.cons1 | (apply LT.guard1; rfl; rfl; rfl; decide) | apply HT.cons1 | (apply HT.guard1; rfl; rfl; rfl)); (first | exact arm15_1r); (try decide)) | refine LT.skip1 rfl rfl rfl (by decide) (by decide) ?_ | refine LT.skip2 rfl rfl (by decide) (by decide) ?_ | refine LT.partD rfl rfl (fun _ => ?_) (fun _ => ?_) | refine LT.partN rfl rfl (fun _ => ?_) (fun _ => ?_) | refine HT.skip1 rfl rfl rfl ?_ | refine HT.skip2 rfl rfl ?_ | refine HT.partD rfl rfl (fun _ => ?_) (fun _ => ?_) | refine HT.partN rfl rfl (fun _ => ?_) (fun _ => ?_) | ((first | refine LT.part1 rfl rfl (fun h => ?_) (fun h => ?_) | refine HT.part1 rfl rfl (fun h => ?_) (fun h => ?_)); (fail_if_success exact absurd h (by decide)); rotate_left; (fail_if_success exact absurd h (by decide)); rotate_left))
  refine CT.sub (S' := ⟨[(0, .val (.int .i64 w)), (1, .sl 5 (ops.map encO)), (7, .ptr 1000 0), (9, .sl 4 (([] : List Rte).map encR)), (33, .sl 5 (ops.map encO)), (34, .val (.int .i64 (ops.length : Nat))), (35, .val (.int .i64 0))], [(1000, triBx w 0)], triAr [nd0, nd0] []⟩) ?_ ?_
  · (apply Sub.mk; (focus (repeat (first | exact .nil | refine .other (.keep rfl rfl) ?_ | refine .other (.aref rfl rfl rfl) ?_ | refine .other (.val rfl (by first | rfl | (congr 1; first | omega | assumption | (symm; assumption)) | (simp; omega))) ?_ | refine .other .dead ?_ | refine .other (.sl rfl (.row _ _ _ _) rfl) ?_ | refine .other (.sl rfl (.sl _ _) rfl) ?_ | refine .other (.sl rfl (.full _ _) rfl) ?_ | refine .other (.slNil rfl rfl) ?_ | refine .rowNil rfl rfl rfl ?_ | refine .row rfl (by first | rfl | assumption | (rw [← List.map_append]; first | done | rfl | congr 1)) rfl rfl ?_))); (focus (repeat (first | exact .nil | refine KeepB.same rfl rfl rfl ?_ | refine KeepB.sameA rfl rfl rfl ?_))); (focus (repeat (first | exact .nil | refine KeepA.cons rfl (by first | rfl | assumption | exact List.map_set | exact List.map_set.symm | (rw [← List.map_append]; first | done | rfl | congr 1) | (congr 1; first | omega | assumption)) ?_))))
  refine CT.loopX (fun k : Nat => (⟨[(0, .val (.int .i64 w)), (1, .sl 5 (ops.map encO)), (7, .ptr 1000 0), (9, .sl 4 ((runS w (ops.take k)).2.2.map encR)), (33, .sl 5 (ops.map encO)), (34, .val (.int .i64 (ops.length : Nat))), (35, .val (.int .i64 k))], [(1000, triBx w ((runS w (ops.take k)).2.2.length : Nat))], triAr (runS w (ops.take k)).1 (runS w (ops.take k)).2.1⟩ : St))
    (fun k => k ≤ ops.length) (fun k => ops.length - k) 0 ?_ (by omega) ?_
  · (apply Sub.mk; (focus (repeat (first | exact .nil | refine .other (.keep rfl rfl) ?_ | refine .other (.aref rfl rfl rfl) ?_ | refine .other (.val rfl (by first | rfl | (congr 1; first | omega | assumption | (symm; assumption)) | (simp; omega))) ?_ | refine .other .dead ?_ | refine .other (.sl rfl (.row _ _ _ _) rfl) ?_ | refine .other (.sl rfl (.sl _ _) rfl) ?_ | refine .other (.sl rfl (.full _ _) rfl) ?_ | refine .other (.slNil rfl rfl) ?_ | refine .rowNil rfl rfl rfl ?_ | refine .row rfl (by first | rfl | assumption | (rw [← List.map_append]; first | done | rfl | congr 1)) rfl rfl ?_))); (focus (repeat (first | exact .nil | refine KeepB.same rfl rfl rfl ?_ | refine KeepB.sameA rfl rfl rfl ?_))); (focus (repeat (first | exact .nil | refine KeepA.cons rfl (by first | rfl | assumption | exact List.map_set | exact List.map_set.symm | (rw [← List.map_append]; first | done | rfl | congr 1) | (congr 1; first | omega | assumption)) ?_))))
  rintro k hk
  by_cases hlt : k < ops.length
  · have hI := hRI k hk
    have hst := runS_take w ops hlt
    have hro := hok _ (List.getElem_mem hlt)
    unfold opS at hst
    by_cases hkd : ops[k].kind ≤ 0
    · rw [if_pos hkd] at hst
      obtain ⟨was, err, gP, gD, _⟩ := put_step hw (by omega) hI ops[k].r hro
      generalize putS w (runS w (ops.take k)) ops[k].r = s2 at hst gP gD
      generalize runS w (ops.take k) = s1 at gP gD ⊢
      clear hI hRI
      repeat' (first | (refine LT.consT ?_; refine T.callO Try.func10 rfl rfl gP rfl rfl rfl rfl rfl rfl (fun p _ _ => hno _ rfl) rfl rfl (by decide) ?_) | refine CT.seqR ?_ | refine CT.seqD (id := 8) 17 (by kernel_rfl) (by kernel_rfl) ?_ | refine CT.draw (id := 8) 17 (by kernel_rfl) (by kernel_rfl) ?_ | refine CT.region ?_ | refine CT.seq1 ?_ | refine CT.block ?_ | refine CT.condT rfl ?_ | refine CT.condF rfl ?_ | refine CT.condD rfl (fun _ => ?_) (fun _ => ?_) | refine CT.condN rfl (fun _ => ?_) (fun _ => ?_) | refine CT.cond rfl (fun _ => ?_) (fun _ => ?_) | refine CT.skip ?_ | refine CT.exit ?_ | refine CT.ret ?_ | refine LT.nil ?_ | refine HT.nil1 ?_ | (refine LT.consT ?_; (first | refine T.alloc (e := 85) (z := .agg #[.int .i64 0, .int .u64 0, .int .u64 0, .int .i64 0, .int .i64 0]) (cs := [.val (.int .i64 0), .val (.int .u64 0), .val (.int .u64 0), .val (.int .i64 0), .val (.int .i64 0)]) (by kernel_rfl) rfl (by decide) rfl rfl ?_ | refine T.storeA (t := 85) rfl rfl rfl rfl (map_at bd) (by kernel_rfl) (by kernel_rfl) (Nat.le_of_ble_eq_true (by kernel_rfl)) rfl rfl rfl ?_ | refine T.store (t := 85) rfl rfl rfl (by kernel_rfl) (by kernel_rfl) (Nat.le_of_ble_eq_true (by kernel_rfl)) rfl rfl ?_)) | ((first | apply LT.cons1 | (apply LT.guard1; rfl; rfl; rfl; decide) | apply HT.cons1 | (apply HT.guard1; rfl; rfl; rfl)); (first | exact OpH.max2v 0 rfl rfl (by split <;> omega) | exact OpH.min2v 0 rfl rfl (by split <;> omega) | exact OpH.callF Try.func19 rfl rfl rfl (g_law6One ops[k].r) rfl | exact OpH.callF Try.func43 rfl rfl rfl gD rfl | exact arm15_1r); (try decide)) | refine LT.skip1 rfl rfl rfl (by decide) (by decide) ?_ | refine LT.skip2 rfl rfl (by decide) (by decide) ?_ | refine LT.partD rfl rfl (fun _ => ?_) (fun _ => ?_) | refine LT.partN rfl rfl (fun _ => ?_) (fun _ => ?_) | refine HT.skip1 rfl rfl rfl ?_ | refine HT.skip2 rfl rfl ?_ | refine HT.partD rfl rfl (fun _ => ?_) (fun _ => ?_) | refine HT.partN rfl rfl (fun _ => ?_) (fun _ => ?_) | ((first | refine LT.part1 rfl rfl (fun h => ?_) (fun h => ?_) | refine HT.part1 rfl rfl (fun h => ?_) (fun h => ?_)); (fail_if_success exact absurd h (by decide)); rotate_left; (fail_if_success exact absurd h (by decide)); rotate_left))
      refine ⟨k + 1, by omega, by omega, ?_⟩
      rw [hst]
      (apply Sub.mk; (focus (repeat (first | exact .nil | refine .other (.keep rfl rfl) ?_ | refine .other (.aref rfl rfl rfl) ?_ | refine .other (.val rfl (by first | rfl | (congr 1; first | omega | assumption | (symm; assumption)) | (simp; omega))) ?_ | refine .other .dead ?_ | refine .other (.sl rfl (.row _ _ _ _) rfl) ?_ | refine .other (.sl rfl (.sl _ _) rfl) ?_ | refine .other (.sl rfl (.full _ _) rfl) ?_ | refine .other (.slNil rfl rfl) ?_ | refine .rowNil rfl rfl rfl ?_ | refine .row rfl (by first | rfl | assumption | (rw [← List.map_append]; first | done | rfl | congr 1)) rfl rfl ?_))); (focus (repeat (first | exact .nil | refine KeepB.same rfl rfl rfl ?_ | refine KeepB.sameA rfl rfl rfl ?_))); (focus (repeat (first | exact .nil | refine KeepA.cons rfl (by first | rfl | assumption | exact List.map_set | exact List.map_set.symm | (rw [← List.map_append]; first | done | rfl | congr 1) | (congr 1; first | omega | assumption)) ?_))))
    · rw [if_neg hkd] at hst
      obtain ⟨err, gP, gD, _⟩ := drop_step hw (by omega) hI ops[k].r hro
      generalize dropS w (runS w (ops.take k)) ops[k].r.p = s2 at hst gP gD
      generalize runS w (ops.take k) = s1 at gP gD ⊢
      clear hI hRI
      repeat' (first | (refine LT.consT ?_; refine T.callO Try.func31 rfl rfl gP rfl rfl rfl rfl rfl rfl (fun p _ _ => hno _ rfl) rfl rfl (by decide) ?_) | refine CT.seqR ?_ | refine CT.seqD (id := 8) 17 (by kernel_rfl) (by kernel_rfl) ?_ | refine CT.draw (id := 8) 17 (by kernel_rfl) (by kernel_rfl) ?_ | refine CT.region ?_ | refine CT.seq1 ?_ | refine CT.block ?_ | refine CT.condT rfl ?_ | refine CT.condF rfl ?_ | refine CT.condD rfl (fun _ => ?_) (fun _ => ?_) | refine CT.condN rfl (fun _ => ?_) (fun _ => ?_) | refine CT.cond rfl (fun _ => ?_) (fun _ => ?_) | refine CT.skip ?_ | refine CT.exit ?_ | refine CT.ret ?_ | refine LT.nil ?_ | refine HT.nil1 ?_ | (refine LT.consT ?_; (first | refine T.alloc (e := 85) (z := .agg #[.int .i64 0, .int .u64 0, .int .u64 0, .int .i64 0, .int .i64 0]) (cs := [.val (.int .i64 0), .val (.int .u64 0), .val (.int .u64 0), .val (.int .i64 0), .val (.int .i64 0)]) (by kernel_rfl) rfl (by decide) rfl rfl ?_ | refine T.storeA (t := 85) rfl rfl rfl rfl (map_at bd) (by kernel_rfl) (by kernel_rfl) (Nat.le_of_ble_eq_true (by kernel_rfl)) rfl rfl rfl ?_ | refine T.store (t := 85) rfl rfl rfl (by kernel_rfl) (by kernel_rfl) (Nat.le_of_ble_eq_true (by kernel_rfl)) rfl rfl ?_)) | ((first | apply LT.cons1 | (apply LT.guard1; rfl; rfl; rfl; decide) | apply HT.cons1 | (apply HT.guard1; rfl; rfl; rfl)); (first | exact OpH.max2v ops[k].kind rfl rfl (by split <;> omega) | exact OpH.min2v 1 rfl rfl (by split <;> omega) | exact OpH.callF Try.func19 rfl rfl rfl (g_law6One ops[k].r) rfl | exact OpH.callF Try.func43 rfl rfl rfl gD rfl | exact arm15_1r); (try decide)) | refine LT.skip1 rfl rfl rfl (by decide) (by decide) ?_ | refine LT.skip2 rfl rfl (by decide) (by decide) ?_ | refine LT.partD rfl rfl (fun _ => ?_) (fun _ => ?_) | refine LT.partN rfl rfl (fun _ => ?_) (fun _ => ?_) | refine HT.skip1 rfl rfl rfl ?_ | refine HT.skip2 rfl rfl ?_ | refine HT.partD rfl rfl (fun _ => ?_) (fun _ => ?_) | refine HT.partN rfl rfl (fun _ => ?_) (fun _ => ?_) | ((first | refine LT.part1 rfl rfl (fun h => ?_) (fun h => ?_) | refine HT.part1 rfl rfl (fun h => ?_) (fun h => ?_)); (fail_if_success exact absurd h (by decide)); rotate_left; (fail_if_success exact absurd h (by decide)); rotate_left))
      refine ⟨k + 1, by omega, by omega, ?_⟩
      rw [hst]
      (apply Sub.mk; (focus (repeat (first | exact .nil | refine .other (.keep rfl rfl) ?_ | refine .other (.aref rfl rfl rfl) ?_ | refine .other (.val rfl (by first | rfl | (congr 1; first | omega | assumption | (symm; assumption)) | (simp; omega))) ?_ | refine .other .dead ?_ | refine .other (.sl rfl (.row _ _ _ _) rfl) ?_ | refine .other (.sl rfl (.sl _ _) rfl) ?_ | refine .other (.sl rfl (.full _ _) rfl) ?_ | refine .other (.slNil rfl rfl) ?_ | refine .rowNil rfl rfl rfl ?_ | refine .row rfl (by first | rfl | assumption | (rw [← List.map_append]; first | done | rfl | congr 1)) rfl rfl ?_))); (focus (repeat (first | exact .nil | refine KeepB.same rfl rfl rfl ?_ | refine KeepB.sameA rfl rfl rfl ?_))); (focus (repeat (first | exact .nil | refine KeepA.cons rfl (by first | rfl | assumption | exact List.map_set | exact List.map_set.symm | (rw [← List.map_append]; first | done | rfl | congr 1) | (congr 1; first | omega | assumption)) ?_))))
  · obtain rfl : k = ops.length := by omega
    rw [List.take_length]
    generalize runS w ops = s
    repeat' (first | refine CT.seqR ?_ | refine CT.seqD (id := 8) 17 (by kernel_rfl) (by kernel_rfl) ?_ | refine CT.draw (id := 8) 17 (by kernel_rfl) (by kernel_rfl) ?_ | refine CT.region ?_ | refine CT.seq1 ?_ | refine CT.block ?_ | refine CT.condT rfl ?_ | refine CT.condF rfl ?_ | refine CT.condD rfl (fun _ => ?_) (fun _ => ?_) | refine CT.condN rfl (fun _ => ?_) (fun _ => ?_) | refine CT.cond rfl (fun _ => ?_) (fun _ => ?_) | refine CT.skip ?_ | refine CT.exit ?_ | refine CT.ret ?_ | refine LT.nil ?_ | refine HT.nil1 ?_ | (refine LT.consT ?_; (first | refine T.alloc (e := 85) (z := .agg #[.int .i64 0, .int .u64 0, .int .u64 0, .int .i64 0, .int .i64 0]) (cs := [.val (.int .i64 0), .val (.int .u64 0), .val (.int .u64 0), .val (.int .i64 0), .val (.int .i64 0)]) (by kernel_rfl) rfl (by decide) rfl rfl ?_ | refine T.storeA (t := 85) rfl rfl rfl rfl (map_at bd) (by kernel_rfl) (by kernel_rfl) (Nat.le_of_ble_eq_true (by kernel_rfl)) rfl rfl rfl ?_ | refine T.store (t := 85) rfl rfl rfl (by kernel_rfl) (by kernel_rfl) (Nat.le_of_ble_eq_true (by kernel_rfl)) rfl rfl ?_)) | ((first | apply LT.cons1 | (apply LT.guard1; rfl; rfl; rfl; decide) | apply HT.cons1 | (apply HT.guard1; rfl; rfl; rfl)); (first | exact arm15_1r); (try decide)) | refine LT.skip1 rfl rfl rfl (by decide) (by decide) ?_ | refine LT.skip2 rfl rfl (by decide) (by decide) ?_ | refine LT.partD rfl rfl (fun _ => ?_) (fun _ => ?_) | refine LT.partN rfl rfl (fun _ => ?_) (fun _ => ?_) | refine HT.skip1 rfl rfl rfl ?_ | refine HT.skip2 rfl rfl ?_ | refine HT.partD rfl rfl (fun _ => ?_) (fun _ => ?_) | refine HT.partN rfl rfl (fun _ => ?_) (fun _ => ?_) | ((first | refine LT.part1 rfl rfl (fun h => ?_) (fun h => ?_) | refine HT.part1 rfl rfl (fun h => ?_) (fun h => ?_)); (fail_if_success exact absurd h (by decide)); rotate_left; (fail_if_success exact absurd h (by decide)); rotate_left))
    refine ⟨by first | exact .inl rfl | exact .inr rfl, ⟨_, (.cons (.tmp 4 (A := .ptr _ _) rfl (fun _ h => by cases h)) (.cons (.tmp 5 (A := .sl _ _) rfl (fun _ h => by cases h)) (.cons (.tmp 6 (A := .val _) rfl (fun _ h => by cases h)) .nil))), ?_, rfl⟩, rfl, ?_⟩
    · rfl
    · rfl
end Go.Proofs.Ytkfmammkbmhfaaa
