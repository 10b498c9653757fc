/- TrieFull: what the law does. -/
import Derived.Test.YtkfmammkbmhfaaaYTriF
import Derived.Test.YtkfmammkbmhfaaaYOpen
namespace Go.Proofs.Ytkfmammkbmhfaaa
set_option linter.unusedSimpArgs false
set_option linter.unusedVariables false
open Go Go.RowKit Go.Shelf
def fullA (k : Nat) : A2 := ⟨(k : Int) * 72057594037927936, 0⟩
def fullP (k : Nat) : Pfx := ⟨fullA k, 8⟩
theorem full_make : ∀ k : Fin 256, pMake (fullA k.val) 8 = fullP k.val := by decide +kernel
theorem full_ok {k : Nat} (h : k < 256) : (fullA k).ok := by
  unfold fullA
  exact ⟨⟨(by show (0 : Int) ≤ (k : Int) * 72057594037927936; omega), (by show (k : Int) * 72057594037927936 < 18446744073709551616; omega)⟩, U_zero⟩
theorem full_canon {k : Nat} (h : k < 256) : Canon (fullP k) := by
  have := (make_canon (full_ok h) (n := 8) (by omega) (by omega)).1
  rwa [full_make ⟨k, h⟩] at this
theorem full_inj {i k : Nat} (h : fullP i = fullP k) : i = k := by
  have := congrArg (fun p => p.a.x) h
  simp only [fullP, fullA] at this
  omega
def fullR (k : Nat) : Rte := ⟨fullP k, 1⟩
def zeroP : Pfx := ⟨⟨0, 0⟩, 0⟩
theorem zero_canon : Canon zeroP := ⟨by decide, by decide, ⟨⟨by decide, by decide⟩, ⟨by decide, by decide⟩⟩, fun i _ _ => abit_zero i⟩
structure FullI (k : Nat) (l : List Nd) (f : List Nat) (rs : List Rte) : Prop where
  tri : Tri 32 l f rs
  cnt : rs.length = k
  has : ∀ j, j < k → ∃ r, findR rs (fullP j) = some r
  only : ∀ r ∈ rs, ∃ j, j < k ∧ r.p = fullP j
  len : l.length ≤ 2 + 128 * k
theorem FullI.start : FullI 0 [nd0, nd0] [] [] := ⟨Tri.start (.inl rfl), rfl, (fun j hj => by omega), (fun r hr => by cases hr), by decide⟩
theorem findR_of {rs : List Rte} {r : Rte} (h : r ∈ rs) : ∃ s, findR rs r.p = some s := by
  cases hf : findR rs r.p with
  | none => exact absurd rfl (findR_none.1 hf r h)
  | some s => exact ⟨s, rfl⟩
theorem FullI.new {k : Nat} {l : List Nd} {f : List Nat} {rs : List Rte} (h : FullI k l f rs) : findR rs (fullP k) = none := by
  refine findR_none.2 fun r hr e => ?_
  obtain ⟨j, hj, hp⟩ := h.only r hr
  have := full_inj (hp.symm.trans e)
  omega
theorem FullI.step {k : Nat} {l : List Nd} {f : List Nat} {rs : List Rte} (h : FullI k l f rs) (hk : k < 256) : FullI (k + 1) (putL l f (fullA k) 8 1) (putF l f (fullA k) 8) (putR (dropR rs (fullP k)) (fullR k)) := by
  have hn := h.new
  have hd := dropR_none hn
  refine ⟨h.tri.put (r := fullR k) (full_canon hk) ⟨(by show (1 : Int) ≤ 1; decide), (by show (1 : Int) ≤ 255; decide)⟩ (by show (8 : Int) ≤ 32; decide), by rw [putR_length, hd, h.cnt], fun j hj => ?_, fun r hr => ?_, ?_⟩
  · by_cases e : j = k
    · subst e; exact findR_of (r := fullR j) (putR_mem.2 (.inl rfl))
    · obtain ⟨r, hr⟩ := h.has j (by omega)
      obtain ⟨m1, m2⟩ := findR_some hr
      rw [← m2]
      exact findR_of (putR_mem.2 (.inr (by rw [hd]; exact m1)))
  · rcases putR_mem.1 hr with rfl | hr
    · exact ⟨k, by omega, rfl⟩
    · rw [hd] at hr
      obtain ⟨j, hj, e⟩ := h.only r hr
      exact ⟨j, by omega, e⟩
  · have := putL_len l f (fullA k) (n := 8) (by omega) 1
    have := h.len
    omega
section
variable {P : Program} {xt : TypeId} {x y : Operand}
theorem pb_shl56 {k : Nat} (h : k < 256) : PB P .shl xt x y (.int .u64 (k : Nat)) (.int .u64 56) (.int .u64 (fullA k).x) := fun w => by
  have e : IntKind.wrap .u64 ((k : Int) * 2 ^ 56) = (k : Int) * 72057594037927936 := by
    show ((k : Int) * 72057594037927936) % 18446744073709551616 = _
    exact Int.emod_eq_of_lt (by omega) (by omega)
  have e3 : min (56 : Int).toNat IntKind.u64.bits = 56 := by decide
  simp only [eqGuard, binOp, Op.shift, show ¬ ((56 : Int) < 0) by decide, if_false, e3, e]
  simp
  rfl
theorem conv_in {src dst : TypeId} {k q : IntKind} {n : Int} (hs : (P.underlying src).isSome = true) (hd : P.underlying dst = some (.int k)) (hw : k.wrap n = n) : ∀ w, (convert src dst (.int q n)).run P w = .ok (.int k n) w := fun w => by
  obtain ⟨d, hd'⟩ := Option.isSome_iff_exists.mp hs
  simp [convert, run_underlying hd', run_underlying hd, Conv.intToInt, hw]
theorem wrap_u64 {n : Int} (h0 : 0 ≤ n) (h1 : n < 18446744073709551616) : IntKind.wrap .u64 n = n := Int.emod_eq_of_lt h0 h1
end
attribute [local irreducible] OpH OpT LT CT HT Good GoodO
theorem arm3_1tf {p : Prop} (h : p := by first | exact OpH.assign (v := .val _) rfl | exact OpH.assign (v := .sl _ _) rfl | exact OpH.assign (v := .row _ _ _ _) rfl | exact OpH.assign (v := .full _ _) rfl | exact OpH.assign (v := .ptr _ _) rfl | exact OpH.assign (v := .cptr _) rfl | exact OpH.assign (v := .cloB _ _) rfl | exact OpH.assign (v := .clo _ _) rfl | exact OpH.assign (v := .pr _) rfl | exact OpH.assign (v := .arow _) rfl | exact OpH.assign (v := .aptr _ _ _ _) rfl | exact OpH.assign (v := .asub _ _ _ _) rfl | exact OpH.assign (v := .tup _) rfl | exact OpH.move (v := .val _) rfl | exact OpH.move (v := .sl _ _) rfl | exact OpH.move (v := .row _ _ _ _) rfl | exact OpH.move (v := .full _ _) rfl | exact OpH.move (v := .ptr _ _) rfl | exact OpH.move (v := .cptr _) rfl | exact OpH.move (v := .cloB _ _) rfl | exact OpH.move (v := .clo _ _) rfl | exact OpH.move (v := .pr _) rfl | exact OpH.move (v := .arow _) rfl | exact OpH.move (v := .aptr _ _ _ _) rfl | exact OpH.move (v := .asub _ _ _ _) rfl | exact OpH.move (v := .tup _) rfl | exact OpH.extract (v := .val _) rfl rfl (fun _ h => by cases h) | exact OpH.extract (v := .sl _ _) rfl rfl (fun _ h => by cases h) | exact OpH.extract (v := .row _ _ _ _) rfl rfl (fun _ h => by cases h) | exact OpH.extract (v := .full _ _) rfl rfl (fun _ h => by cases h) | exact OpH.extract (v := .ptr _ _) rfl rfl (fun _ h => by cases h) | exact OpH.bin rfl rfl (pb_neq_t (by first | omega | assumption)) | exact OpH.bin rfl rfl (pb_neq_f (by first | omega | assumption)) | exact OpH.bin rfl rfl (pb_neq) | exact OpH.eqNilB (t := 22) rfl (by kernel_rfl) | exact OpH.bin (xt := 22) rfl rfl (pb_eqlNil (by kernel_rfl)) | exact OpH.pick (b := true) (v := .val _) rfl rfl | exact OpH.pick (b := false) (v := .val _) rfl rfl | exact OpH.pick (b := true) (v := .sl _ _) rfl rfl | exact OpH.pick (b := false) (v := .sl _ _) rfl rfl | exact OpH.pick (b := true) (v := .row _ _ _ _) rfl rfl | exact OpH.pick (b := false) (v := .row _ _ _ _) rfl rfl | exact OpH.pick (b := true) (v := .full _ _) rfl rfl | exact OpH.pick (b := false) (v := .full _ _) rfl rfl | exact OpH.pickV rfl rfl rfl | exact OpH.bin rfl rfl (pb_lss_t (by omega)) | exact OpH.bin rfl rfl (pb_lss_f (by omega)) | exact OpH.bin rfl rfl (pb_lss) | exact OpH.convN (by kernel_rfl) (by kernel_rfl) rfl (by omega) | exact build_31_0 rfl | exact OpH.build (t := 31) (cells := #[_, _]) (by kernel_rfl) rfl | exact build_33_0_1 rfl rfl | exact OpH.build (t := 33) (cells := #[_, _, _]) (by kernel_rfl) rfl | exact build_35_0_1 rfl rfl | exact OpH.build (t := 35) (cells := #[_, _, _, _]) (by kernel_rfl) rfl | exact OpH.bin rfl rfl (pb_inc (by omega)) | exact OpH.bin rfl rfl (pb_addN rfl (by omega)) | exact OpH.bin rfl rfl (pb_add (by omega)) | exact OpH.bin rfl rfl (pb_addw) | exact build_33_  | exact loadC3 (t := 33) rfl (by kernel_rfl) | exact loadB3 (t := 33) rfl rfl (by kernel_rfl) rfl | exact OpH.loadA (t := 33) (vs := [_, _, _]) rfl rfl rfl (map_at bd) (by kernel_rfl) rfl rfl | exact OpH.bin rfl rfl (pb_gtr_t (by omega)) | exact OpH.bin rfl rfl (pb_gtr_f (by omega)) | exact OpH.bin rfl rfl (pb_gtr) | exact OpH.bin rfl rfl (pb_eql_t (by first | omega | assumption)) | exact OpH.bin rfl rfl (pb_eql_f (by first | omega | assumption)) | exact OpH.bin rfl rfl (pb_eql) | exact OpH.un rfl un_not | exact OpH.un rfl (un_neg (by omega)) | exact OpH.callL Try.func11 rfl rfl rfl (g_awake7) | exact OpH.fieldC (s := 35) (f := 1) (off := 3) rfl (by kernel_rfl) rfl | exact OpH.fieldB (s := 35) (f := 1) (off := 3) rfl (by kernel_rfl) rfl | exact OpH.fieldA (s := 35) (f := 1) (off := 3) rfl (by kernel_rfl) rfl | exact OpH.loadC1 (t := 3) rfl (by kernel_rfl) rfl | exact OpH.loadB1 (t := 3) rfl rfl (by kernel_rfl) rfl | exact OpH.loadA1 (t := 3) rfl rfl rfl (map_at bd) (by kernel_rfl) rfl rfl) : p := h
set_option maxRecDepth 100000 in
set_option maxHeartbeats 4000000 in
theorem g_TrieFull (more action : Int) (hm0 : 0 ≤ more) (hm1 : more ≤ 255) : Good Try.prog 3 [.val (.int .u8 more), .val (.int .i64 action)] (.val (.bool true)) := by
  obtain ⟨m, rfl⟩ : ∃ m : Nat, more = (m : Int) := ⟨more.toNat, by omega⟩
  have hm : m < 256 := by omega
  have gN := g_New 32 (.inl rfl)
  have gB := g_NewBad 33 (by decide)
  refine Good.of_body (T := [(0, _), (1, _)]) Try.func3 rfl rfl rfl ?_
  intro K0 w0 hno
  repeat' (first | (refine LT.consT ?_; refine T.callO Try.func9 rfl rfl gN rfl rfl rfl rfl rfl rfl (fun p _ _ => hno.2 _) rfl rfl (by decide) ?_) | refine CT.seqR ?_ | refine CT.region ?_ | refine CT.seq1 ?_ | refine CT.block ?_ | refine CT.condT rfl ?_ | refine CT.condF rfl ?_ | refine CT.condD rfl (fun _ => ?_) (fun _ => ?_) | refine CT.condN rfl (fun _ => ?_) (fun _ => ?_) | refine CT.cond rfl (fun _ => ?_) (fun _ => ?_) | refine CT.skip ?_ | refine CT.exit ?_ | refine CT.ret ?_ | refine LT.nil ?_ | refine HT.nil1 ?_ | (refine LT.consT ?_; (first | refine T.alloc (e := 33) (z := .agg #[.int .u64 0, .int .u64 0, .int .i64 0]) (cs := [.val (.int .u64 0), .val (.int .u64 0), .val (.int .i64 0)]) (by kernel_rfl) rfl (by decide) rfl rfl ?_ | refine T.storeA (t := 33) rfl rfl rfl rfl (map_at bd) (by kernel_rfl) (by kernel_rfl) (Nat.le_of_ble_eq_true (by kernel_rfl)) rfl rfl rfl ?_ | refine T.store (t := 33) rfl rfl rfl (by kernel_rfl) (by kernel_rfl) (Nat.le_of_ble_eq_true (by kernel_rfl)) rfl rfl ?_ | refine T.alloc (e := 35) (z := .agg #[.int .u64 0, .int .u64 0, .int .i64 0, .int .i64 0]) (cs := [.val (.int .u64 0), .val (.int .u64 0), .val (.int .i64 0), .val (.int .i64 0)]) (by kernel_rfl) rfl (by decide) rfl rfl ?_ | refine T.storeA (t := 35) rfl rfl rfl rfl (map_at bd) (by kernel_rfl) (by kernel_rfl) (Nat.le_of_ble_eq_true (by kernel_rfl)) rfl rfl rfl ?_ | refine T.store (t := 35) rfl rfl rfl (by kernel_rfl) (by kernel_rfl) (Nat.le_of_ble_eq_true (by kernel_rfl)) rfl rfl ?_)) | ((first | apply LT.cons1 | (apply LT.guard1; rfl; rfl; rfl; decide)); (first | exact arm3_1tf); decide) | refine LT.skip1 rfl rfl rfl (by decide) (by decide) ?_ | refine LT.skip2 rfl rfl (by decide) (by decide) ?_ | refine LT.partD rfl rfl (fun _ => ?_) (fun _ => ?_) | refine LT.partN rfl rfl (fun _ => ?_) (fun _ => ?_) | (refine LT.part1 rfl rfl (fun h => ?_) (fun h => ?_); (fail_if_success exact absurd h (by decide)); rotate_left; (fail_if_success exact absurd h (by decide)); rotate_left))
  refine CT.loopX (fun q : Nat × List Nd × List Nat × List Rte => (⟨[(0, .val (.int .u8 (m : Nat))), (1, .val (.int .i64 action)), (5, .ptr 1000 0), (29, .val (.int .i64 q.1))], [(1000, triBx 32 (q.1 : Nat))], triAr q.2.1 q.2.2.1⟩ : St))
    (fun q => q.1 ≤ 256 ∧ FullI q.1 q.2.1 q.2.2.1 q.2.2.2) (fun q => 256 - q.1) (0, [nd0, nd0], [], []) ?_ ⟨by omega, FullI.start⟩ ?_
  · (apply Sub.mk; (focus (repeat (first | exact .nil | refine .other (.keep rfl rfl) ?_ | refine .other (.aref rfl rfl rfl) ?_ | refine .other (.val rfl (by first | rfl | (congr 1; first | omega | assumption | (symm; assumption)) | (simp; omega))) ?_ | refine .other .dead ?_ | refine .other (.sl rfl (.row _ _ _ _) rfl) ?_ | refine .other (.sl rfl (.sl _ _) rfl) ?_ | refine .other (.sl rfl (.full _ _) rfl) ?_ | refine .other (.slNil rfl rfl) ?_ | refine .rowNil rfl rfl rfl ?_ | refine .row rfl (by first | rfl | assumption | (rw [← List.map_append]; first | done | rfl | congr 1)) rfl rfl ?_))); (focus (repeat (first | exact .nil | refine KeepB.same rfl rfl rfl ?_ | refine KeepB.sameA rfl rfl rfl ?_))); (focus (repeat (first | exact .nil | refine KeepA.cons rfl (by first | rfl | assumption | exact List.map_set | exact List.map_set.symm | (rw [← List.map_append]; first | done | rfl | congr 1) | (congr 1; first | omega | assumption)) ?_))))
  rintro ⟨k, l, f, rs⟩ ⟨hk, hI⟩
  dsimp only at hk hI ⊢
  have hlen := hI.len
  have hT := hI.tri
  by_cases hlt : k < 256
  · have hst := hI.step hlt
    have gP := g_PutOk 32 (k : Nat) (.inl rfl) l f hT.way (fullR k) (full_ok hlt) ⟨⟨full_canon hlt, by show (8 : Int) ≤ 32; decide⟩, (by show (1 : Int) ≤ 1; decide), (by show (1 : Int) ≤ 255; decide)⟩ false (by rw [show (fullR k).p = fullP k from rfl, hT.ndAct (full_canon hlt)]; unfold getR; rw [hI.new]; simp) (.inr (by omega)) (by omega) (by omega) (hT.putOK _ (by show 8 ≤ 128; decide) (by omega))
    rw [show (fullR k).p.a = fullA k from rfl, show (fullR k).p.len.toNat = 8 from rfl, show (fullR k).act = 1 from rfl, if_neg (by simp)] at gP
    generalize putL l f (fullA k) 8 1 = l2 at gP hst
    generalize putF l f (fullA k) 8 = f2 at gP hst
    generalize putR (dropR rs (fullP k)) (fullR k) = rs2 at hst
    repeat' (first | (refine LT.consT ?_; refine T.callO Try.func10 rfl rfl gP rfl rfl rfl rfl rfl rfl (fun p _ _ => hno.2 _) rfl rfl (by decide) ?_) | refine CT.seqR ?_ | refine CT.region ?_ | refine CT.seq1 ?_ | refine CT.block ?_ | refine CT.condT rfl ?_ | refine CT.condF rfl ?_ | refine CT.condD rfl (fun _ => ?_) (fun _ => ?_) | refine CT.condN rfl (fun _ => ?_) (fun _ => ?_) | refine CT.cond rfl (fun _ => ?_) (fun _ => ?_) | refine CT.skip ?_ | refine CT.exit ?_ | refine CT.ret ?_ | refine LT.nil ?_ | refine HT.nil1 ?_ | (refine LT.consT ?_; (first | refine T.alloc (e := 33) (z := .agg #[.int .u64 0, .int .u64 0, .int .i64 0]) (cs := [.val (.int .u64 0), .val (.int .u64 0), .val (.int .i64 0)]) (by kernel_rfl) rfl (by decide) rfl rfl ?_ | refine T.storeA (t := 33) rfl rfl rfl rfl (map_at bd) (by kernel_rfl) (by kernel_rfl) (Nat.le_of_ble_eq_true (by kernel_rfl)) rfl rfl rfl ?_ | refine T.store (t := 33) rfl rfl rfl (by kernel_rfl) (by kernel_rfl) (Nat.le_of_ble_eq_true (by kernel_rfl)) rfl rfl ?_ | refine T.alloc (e := 35) (z := .agg #[.int .u64 0, .int .u64 0, .int .i64 0, .int .i64 0]) (cs := [.val (.int .u64 0), .val (.int .u64 0), .val (.int .i64 0), .val (.int .i64 0)]) (by kernel_rfl) rfl (by decide) rfl rfl ?_ | refine T.storeA (t := 35) rfl rfl rfl rfl (map_at bd) (by kernel_rfl) (by kernel_rfl) (Nat.le_of_ble_eq_true (by kernel_rfl)) rfl rfl rfl ?_ | refine T.store (t := 35) rfl rfl rfl (by kernel_rfl) (by kernel_rfl) (Nat.le_of_ble_eq_true (by kernel_rfl)) rfl rfl ?_)) | ((first | apply LT.cons1 | (apply LT.guard1; rfl; rfl; rfl; decide)); (first | exact OpH.conv rfl (conv_in (by kernel_rfl) (by kernel_rfl) (wrap_u64 (by omega) (by omega))) | exact OpH.bin rfl rfl (pb_shl56 hlt) | exact arm3_1tf); decide) | refine LT.skip1 rfl rfl rfl (by decide) (by decide) ?_ | refine LT.skip2 rfl rfl (by decide) (by decide) ?_ | refine LT.partD rfl rfl (fun _ => ?_) (fun _ => ?_) | refine LT.partN rfl rfl (fun _ => ?_) (fun _ => ?_) | (refine LT.part1 rfl rfl (fun h => ?_) (fun h => ?_); (fail_if_success exact absurd h (by decide)); rotate_left; (fail_if_success exact absurd h (by decide)); rotate_left))
    refine ⟨(k + 1, l2, f2, rs2), ⟨by omega, hst⟩, by simp only; omega, ?_⟩
    simp only [show (((k + 1 : Nat) : Int)) = (k : Int) + 1 by omega]
    (apply Sub.mk; (focus (repeat (first | exact .nil | refine .other (.keep rfl rfl) ?_ | refine .other (.aref rfl rfl rfl) ?_ | refine .other (.val rfl (by first | rfl | (congr 1; first | omega | assumption | (symm; assumption)) | (simp; omega))) ?_ | refine .other .dead ?_ | refine .other (.sl rfl (.row _ _ _ _) rfl) ?_ | refine .other (.sl rfl (.sl _ _) rfl) ?_ | refine .other (.sl rfl (.full _ _) rfl) ?_ | refine .other (.slNil rfl rfl) ?_ | refine .rowNil rfl rfl rfl ?_ | refine .row rfl (by first | rfl | assumption | (rw [← List.map_append]; first | done | rfl | congr 1)) rfl rfl ?_))); (focus (repeat (first | exact .nil | refine KeepB.same rfl rfl rfl ?_ | refine KeepB.sameA rfl rfl rfl ?_))); (focus (repeat (first | exact .nil | refine KeepA.cons rfl (by first | rfl | assumption | exact List.map_set | exact List.map_set.symm | (rw [← List.map_append]; first | done | rfl | congr 1) | (congr 1; first | omega | assumption)) ?_))))
  · obtain rfl : k = 256 := by omega
    have hz : getR rs zeroP = 0 := by
      unfold getR
      have : findR rs zeroP = none := findR_none.2 fun r hr e => by
        obtain ⟨j, hj, hp⟩ := hI.only r hr
        have := congrArg Pfx.len (hp.symm.trans e)
        simp [fullP, zeroP] at this
      rw [this]
    have gM := g_PutMany 32 (256 : Nat) (.inl rfl) l f hT.way ⟨zeroP, 1⟩ zero_canon.ok ⟨⟨zero_canon, by decide⟩, by decide, by decide⟩ (by rw [hT.ndAct zero_canon]; exact hz) (by decide)
    have hwas : getR rs (fullP m) ≠ 0 := (getR_ne hT.tab.act _).2 (hI.has m hm)
    by_cases ha : 1 ≤ action ∧ action ≤ 255
    · have gP := g_PutOk 32 (256 : Nat) (.inl rfl) l f hT.way ⟨fullP m, action⟩ (full_ok hm) ⟨⟨full_canon hm, by show (8 : Int) ≤ 32; decide⟩, ha⟩ true (by rw [hT.ndAct (full_canon hm)]; simp [hwas]) (.inl rfl) (by omega) (by omega) (hT.putOK _ (by show 8 ≤ 128; decide) (by omega))
      have hT2 := hT.put (r := ⟨fullP m, action⟩) (full_canon hm) ha (by show (8 : Int) ≤ 32; decide)
      rw [show (⟨fullP m, action⟩ : Rte).p.a = fullA m from rfl, show (⟨fullP m, action⟩ : Rte).p.len.toNat = 8 from rfl, show (⟨fullP m, action⟩ : Rte).act = action from rfl, if_pos rfl] at gP
      have hget : getR (putR (dropR rs (fullP m)) ⟨fullP m, action⟩) (fullP m) = action := by
        have hmem : (⟨fullP m, action⟩ : Rte) ∈ putR (dropR rs (fullP m)) ⟨fullP m, action⟩ := putR_mem.2 (.inl rfl)
        obtain ⟨s, hs⟩ := findR_of hmem
        have hs2 : findR (putR (dropR rs (fullP m)) ⟨fullP m, action⟩) (fullP m) = some s := hs
        obtain ⟨m1, m2⟩ := findR_some hs2
        have := sorted_same hT2.tab.sorted m1 hmem m2
        unfold getR
        rw [hs2, this]
      have hna : ndAct (putL l f (fullA m) 8 action) (fullP m) = getR (putR (dropR rs (fullP m)) ⟨fullP m, action⟩) (fullP m) := hT2.ndAct (full_canon hm)
      have hway2 : Way (putL l f (fullA m) 8 action) := hT2.way
      rw [hget] at hna
      generalize putL l f (fullA m) 8 action = l2 at gP hna hway2
      generalize putF l f (fullA m) 8 = f2 at gP
      have gG := g_Get 32 (256 : Nat) (.inl rfl) l2 f2 hway2 (fullP m) (full_ok hm) ⟨fullP m, action⟩ true (by rw [hna]; simp only [true_iff]; exact ⟨⟨full_canon hm, by show (8 : Int) ≤ 32; decide⟩, by omega⟩) (by rw [if_pos rfl, hna])
      dsimp only at gG
      have gL := g_tLen 32 (256 : Nat) l2 f2
      obtain ⟨ha0, ha1⟩ := ha
      clear hI hT hT2 hna hway2 hwas hz hget
      repeat' (first | (refine LT.consT ?_; first | refine T.callO Try.func10 rfl rfl gM rfl rfl rfl rfl rfl rfl (fun p _ _ => hno.2 _) rfl rfl (by decide) ?_ | refine T.callO Try.func10 rfl rfl gP rfl rfl rfl rfl rfl rfl (fun p _ _ => hno.2 _) rfl rfl (by decide) ?_) | refine CT.seqR ?_ | refine CT.region ?_ | refine CT.seq1 ?_ | refine CT.block ?_ | refine CT.condT rfl ?_ | refine CT.condF rfl ?_ | refine CT.condD rfl (fun _ => ?_) (fun _ => ?_) | refine CT.condN rfl (fun _ => ?_) (fun _ => ?_) | refine CT.cond rfl (fun _ => ?_) (fun _ => ?_) | refine CT.skip ?_ | refine CT.exit ?_ | refine CT.ret ?_ | refine LT.nil ?_ | refine HT.nil1 ?_ | (refine LT.consT ?_; (first | refine T.alloc (e := 33) (z := .agg #[.int .u64 0, .int .u64 0, .int .i64 0]) (cs := [.val (.int .u64 0), .val (.int .u64 0), .val (.int .i64 0)]) (by kernel_rfl) rfl (by decide) rfl rfl ?_ | refine T.storeA (t := 33) rfl rfl rfl rfl (map_at bd) (by kernel_rfl) (by kernel_rfl) (Nat.le_of_ble_eq_true (by kernel_rfl)) rfl rfl rfl ?_ | refine T.store (t := 33) rfl rfl rfl (by kernel_rfl) (by kernel_rfl) (Nat.le_of_ble_eq_true (by kernel_rfl)) rfl rfl ?_ | refine T.alloc (e := 35) (z := .agg #[.int .u64 0, .int .u64 0, .int .i64 0, .int .i64 0]) (cs := [.val (.int .u64 0), .val (.int .u64 0), .val (.int .i64 0), .val (.int .i64 0)]) (by kernel_rfl) rfl (by decide) rfl rfl ?_ | refine T.storeA (t := 35) rfl rfl rfl rfl (map_at bd) (by kernel_rfl) (by kernel_rfl) (Nat.le_of_ble_eq_true (by kernel_rfl)) rfl rfl rfl ?_ | refine T.store (t := 35) rfl rfl rfl (by kernel_rfl) (by kernel_rfl) (Nat.le_of_ble_eq_true (by kernel_rfl)) rfl rfl ?_)) | ((first | apply LT.cons1 | (apply LT.guard1; rfl; rfl; rfl; decide)); (first | exact OpH.conv rfl (conv_in (by kernel_rfl) (by kernel_rfl) (wrap_u64 (by omega) (by omega))) | exact OpH.bin rfl rfl (pb_shl56 hm) | exact OpH.callF Try.func9 rfl rfl rfl gB rfl | exact OpH.callT Try.func12 rfl rfl rfl gG rfl | exact OpH.callT Try.func13 rfl rfl rfl gL rfl | exact OpH.callF Try.func11 rfl rfl rfl g_awake7 rfl | exact arm3_1tf); decide) | refine LT.skip1 rfl rfl rfl (by decide) (by decide) ?_ | refine LT.skip2 rfl rfl (by decide) (by decide) ?_ | refine LT.partD rfl rfl (fun _ => ?_) (fun _ => ?_) | refine LT.partN rfl rfl (fun _ => ?_) (fun _ => ?_) | (refine LT.part1 rfl rfl (fun h => ?_) (fun h => ?_); (fail_if_success exact absurd h (by decide)); rotate_left; (fail_if_success exact absurd h (by decide)); rotate_left))
      refine ⟨by first | exact .inl rfl | exact .inr rfl, _, (.cons (.tmp 4 (A := .val _) rfl (fun _ h => by cases h)) .nil), ?_, rfl⟩
      rfl
    · have gP := g_PutBad 32 (256 : Nat) (.inl rfl) l f ⟨fullP m, action⟩ (full_ok hm) (fun h => ha h.2)
      clear hI hT hwas hz
      by_cases ha1 : action < 1
      · repeat' (first | (refine LT.consT ?_; first | refine T.callO Try.func10 rfl rfl gM rfl rfl rfl rfl rfl rfl (fun p _ _ => hno.2 _) rfl rfl (by decide) ?_ | refine T.callO Try.func10 rfl rfl gP rfl rfl rfl rfl rfl rfl (fun p _ _ => hno.2 _) rfl rfl (by decide) ?_) | refine CT.seqR ?_ | refine CT.region ?_ | refine CT.seq1 ?_ | refine CT.block ?_ | refine CT.condT rfl ?_ | refine CT.condF rfl ?_ | refine CT.condD rfl (fun _ => ?_) (fun _ => ?_) | refine CT.condN rfl (fun _ => ?_) (fun _ => ?_) | refine CT.cond rfl (fun _ => ?_) (fun _ => ?_) | refine CT.skip ?_ | refine CT.exit ?_ | refine CT.ret ?_ | refine LT.nil ?_ | refine HT.nil1 ?_ | (refine LT.consT ?_; (first | refine T.alloc (e := 33) (z := .agg #[.int .u64 0, .int .u64 0, .int .i64 0]) (cs := [.val (.int .u64 0), .val (.int .u64 0), .val (.int .i64 0)]) (by kernel_rfl) rfl (by decide) rfl rfl ?_ | refine T.storeA (t := 33) rfl rfl rfl rfl (map_at bd) (by kernel_rfl) (by kernel_rfl) (Nat.le_of_ble_eq_true (by kernel_rfl)) rfl rfl rfl ?_ | refine T.store (t := 33) rfl rfl rfl (by kernel_rfl) (by kernel_rfl) (Nat.le_of_ble_eq_true (by kernel_rfl)) rfl rfl ?_ | refine T.alloc (e := 35) (z := .agg #[.int .u64 0, .int .u64 0, .int .i64 0, .int .i64 0]) (cs := [.val (.int .u64 0), .val (.int .u64 0), .val (.int .i64 0), .val (.int .i64 0)]) (by kernel_rfl) rfl (by decide) rfl rfl ?_ | refine T.storeA (t := 35) rfl rfl rfl rfl (map_at bd) (by kernel_rfl) (by kernel_rfl) (Nat.le_of_ble_eq_true (by kernel_rfl)) rfl rfl rfl ?_ | refine T.store (t := 35) rfl rfl rfl (by kernel_rfl) (by kernel_rfl) (Nat.le_of_ble_eq_true (by kernel_rfl)) rfl rfl ?_)) | ((first | apply LT.cons1 | (apply LT.guard1; rfl; rfl; rfl; decide)); (first | exact OpH.conv rfl (conv_in (by kernel_rfl) (by kernel_rfl) (wrap_u64 (by omega) (by omega))) | exact OpH.bin rfl rfl (pb_shl56 hm) | exact OpH.callF Try.func9 rfl rfl rfl gB rfl | exact OpH.callF Try.func11 rfl rfl rfl g_awake7 rfl | exact arm3_1tf); decide) | refine LT.skip1 rfl rfl rfl (by decide) (by decide) ?_ | refine LT.skip2 rfl rfl (by decide) (by decide) ?_ | refine LT.partD rfl rfl (fun _ => ?_) (fun _ => ?_) | refine LT.partN rfl rfl (fun _ => ?_) (fun _ => ?_) | (refine LT.part1 rfl rfl (fun h => ?_) (fun h => ?_); (fail_if_success exact absurd h (by decide)); rotate_left; (fail_if_success exact absurd h (by decide)); rotate_left))
        refine ⟨by first | exact .inl rfl | exact .inr rfl, _, (.cons (.tmp 4 (A := .val _) rfl (fun _ h => by cases h)) .nil), ?_, rfl⟩
        rfl
      · have ha2 : action > 255 := by omega
        repeat' (first | (refine LT.consT ?_; first | refine T.callO Try.func10 rfl rfl gM rfl rfl rfl rfl rfl rfl (fun p _ _ => hno.2 _) rfl rfl (by decide) ?_ | refine T.callO Try.func10 rfl rfl gP rfl rfl rfl rfl rfl rfl (fun p _ _ => hno.2 _) rfl rfl (by decide) ?_) | refine CT.seqR ?_ | refine CT.region ?_ | refine CT.seq1 ?_ | refine CT.block ?_ | refine CT.condT rfl ?_ | refine CT.condF rfl ?_ | refine CT.condD rfl (fun _ => ?_) (fun _ => ?_) | refine CT.condN rfl (fun _ => ?_) (fun _ => ?_) | refine CT.cond rfl (fun _ => ?_) (fun _ => ?_) | refine CT.skip ?_ | refine CT.exit ?_ | refine CT.ret ?_ | refine LT.nil ?_ | refine HT.nil1 ?_ | (refine LT.consT ?_; (first | refine T.alloc (e := 33) (z := .agg #[.int .u64 0, .int .u64 0, .int .i64 0]) (cs := [.val (.int .u64 0), .val (.int .u64 0), .val (.int .i64 0)]) (by kernel_rfl) rfl (by decide) rfl rfl ?_ | refine T.storeA (t := 33) rfl rfl rfl rfl (map_at bd) (by kernel_rfl) (by kernel_rfl) (Nat.le_of_ble_eq_true (by kernel_rfl)) rfl rfl rfl ?_ | refine T.store (t := 33) rfl rfl rfl (by kernel_rfl) (by kernel_rfl) (Nat.le_of_ble_eq_true (by kernel_rfl)) rfl rfl ?_ | refine T.alloc (e := 35) (z := .agg #[.int .u64 0, .int .u64 0, .int .i64 0, .int .i64 0]) (cs := [.val (.int .u64 0), .val (.int .u64 0), .val (.int .i64 0), .val (.int .i64 0)]) (by kernel_rfl) rfl (by decide) rfl rfl ?_ | refine T.storeA (t := 35) rfl rfl rfl rfl (map_at bd) (by kernel_rfl) (by kernel_rfl) (Nat.le_of_ble_eq_true (by kernel_rfl)) rfl rfl rfl ?_ | refine T.store (t := 35) rfl rfl rfl (by kernel_rfl) (by kernel_rfl) (Nat.le_of_ble_eq_true (by kernel_rfl)) rfl rfl ?_)) | ((first | apply LT.cons1 | (apply LT.guard1; rfl; rfl; rfl; decide)); (first | exact OpH.conv rfl (conv_in (by kernel_rfl) (by kernel_rfl) (wrap_u64 (by omega) (by omega))) | exact OpH.bin rfl rfl (pb_shl56 hm) | exact OpH.callF Try.func9 rfl rfl rfl gB rfl | exact OpH.callF Try.func11 rfl rfl rfl g_awake7 rfl | exact arm3_1tf); decide) | refine LT.skip1 rfl rfl rfl (by decide) (by decide) ?_ | refine LT.skip2 rfl rfl (by decide) (by decide) ?_ | refine LT.partD rfl rfl (fun _ => ?_) (fun _ => ?_) | refine LT.partN rfl rfl (fun _ => ?_) (fun _ => ?_) | (refine LT.part1 rfl rfl (fun h => ?_) (fun h => ?_); (fail_if_success exact absurd h (by decide)); rotate_left; (fail_if_success exact absurd h (by decide)); rotate_left))
        refine ⟨by first | exact .inl rfl | exact .inr rfl, _, (.cons (.tmp 4 (A := .val _) rfl (fun _ h => by cases h)) .nil), ?_, rfl⟩
        rfl
theorem w_TrieFull (more action : Int) (w : World) (hy : OkY more) (hi : OkI action) : Calls Try.prog 3 #[.int .u8 more, .int .i64 action] w fun e w' => e = .returned (.bool true) ∧ Below w.heap.size w w' :=
  (g_TrieFull more action hy.1 hy.2).run (.val (.val .nil))
end Go.Proofs.Ytkfmammkbmhfaaa
