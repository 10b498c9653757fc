/- merge.Build. -/
import Derived.Test.YtjibochjmmehcaaYPfxW
import Derived.Test.YtjibochjmmehcaaYTab
import Derived.Test.YtjibochjmmehcaaYMergeF
import Derived.Test.YtjibochjmmehcaaYSimpleW
namespace Go.Proofs.Ytjibochjmmehcaa
set_option linter.unusedSimpArgs false
set_option linter.unusedVariables false
open Go Go.RowKit Go.Shelf
attribute [local irreducible] OpH OpT LT CT HT Good
theorem ents_take {rs : List Rte} {k : Nat} (h : k < rs.length) : (rs.take (k + 1)).map entR = (rs.take k).map entR ++ [entR rs[k]] := by
  rw [List.take_succ_eq_append_getElem h, List.map_append]; rfl
theorem g_eOfR (r : Rte) (h : Canon r.p) : Good Try.prog 38 [.val (.agg #[.int .u64 r.p.a.x, .int .u64 r.p.a.y, .int .i64 r.p.len]), .val (.int .i64 r.act)] (.val (.agg #[.int .u64 (entR r).w.v.x, .int .u64 (entR r).w.v.y, .int .u64 (entR r).w.m.x, .int .u64 (entR r).w.m.y, .int .i64 (entR r).len, .int .i64 (entR r).act])) := by
  have := g_eOfP r.p.a.x r.p.a.y r.p.len r.act
  rw [show pMake ⟨r.p.a.x, r.p.a.y⟩ r.p.len = r.p from cut_canon h] at this
  exact this
theorem arm18_1 {p : Prop} (h : p := by first | exact OpH.assign (v := .val _) rfl | exact OpH.assign (v := .sl _ _) rfl | exact OpH.assign (v := .row _ _ _ _) rfl | exact OpH.assign (v := .full _ _) rfl | exact OpH.assign (v := .ptr _ _) rfl | exact OpH.assign (v := .cptr _) rfl | exact OpH.assign (v := .cloB _ _) rfl | exact OpH.assign (v := .clo _ _) rfl | exact OpH.assign (v := .pr _) rfl | exact OpH.assign (v := .arow _) rfl | exact OpH.assign (v := .aptr _ _ _ _) rfl | exact OpH.assign (v := .asub _ _ _ _) rfl | exact OpH.assign (v := .tup _) rfl | exact OpH.move (v := .val _) rfl | exact OpH.move (v := .sl _ _) rfl | exact OpH.move (v := .row _ _ _ _) rfl | exact OpH.move (v := .full _ _) rfl | exact OpH.move (v := .ptr _ _) rfl | exact OpH.move (v := .cptr _) rfl | exact OpH.move (v := .cloB _ _) rfl | exact OpH.move (v := .clo _ _) rfl | exact OpH.move (v := .pr _) rfl | exact OpH.move (v := .arow _) rfl | exact OpH.move (v := .aptr _ _ _ _) rfl | exact OpH.move (v := .asub _ _ _ _) rfl | exact OpH.move (v := .tup _) rfl | exact OpH.un rfl un_not | exact OpH.un rfl (un_neg (by omega)) | exact OpH.bin rfl rfl (pb_neq_t (by first | omega | assumption)) | exact OpH.bin rfl rfl (pb_neq_f (by first | omega | assumption)) | exact OpH.bin rfl rfl (pb_neq) | exact OpH.lenM (t := 31) rfl (.sl _ _) (by kernel_rfl) | exact OpH.lenM (t := 31) rfl (.row _ _ _ _) (by kernel_rfl) | exact OpH.lenM (t := 31) rfl (.full _ _) (by kernel_rfl) | exact OpH.len (t := 31) rfl slP (by kernel_rfl) | exact OpH.lenNil (t := 31) rfl (by kernel_rfl) | exact OpH.bin rfl rfl (pb_lss_t (by omega)) | exact OpH.bin rfl rfl (pb_lss_f (by omega)) | exact OpH.bin rfl rfl (pb_lss) | exact OpH.indexS (t := 31) (k := 4) rfl slP rfl rfl (by kernel_rfl) (map_at bd) rfl | exact loadC4 (t := 56) rfl (by kernel_rfl) | exact loadB4 (t := 56) rfl rfl (by kernel_rfl) rfl | exact OpH.fieldC (s := 56) (f := 0) (off := 0) rfl (by kernel_rfl) rfl | exact OpH.fieldB (s := 56) (f := 0) (off := 0) rfl (by kernel_rfl) rfl | exact loadC3 (t := 53) rfl (by kernel_rfl) | exact loadB3 (t := 53) rfl rfl (by kernel_rfl) rfl | exact OpH.fieldC (s := 56) (f := 1) (off := 3) rfl (by kernel_rfl) rfl | exact OpH.fieldB (s := 56) (f := 1) (off := 3) rfl (by kernel_rfl) rfl | exact OpH.loadC1 (t := 3) rfl (by kernel_rfl) rfl | exact OpH.loadB1 (t := 3) rfl rfl (by kernel_rfl) rfl | exact OpH.callF Try.func38 rfl rfl rfl (g_eOf _ _ _ _) rfl | exact lit_22_1 rfl | exact OpH.bin rfl rfl (pb_inc (by omega)) | exact OpH.bin rfl rfl (pb_addN rfl (by omega)) | exact OpH.bin rfl rfl (pb_add (by omega)) | exact OpH.bin rfl rfl (pb_addw) | exact OpH.bin rfl rfl (pb_eql_t (by first | omega | assumption)) | exact OpH.bin rfl rfl (pb_eql_f (by first | omega | assumption)) | exact OpH.bin rfl rfl (pb_eql) | exact OpH.callFW Try.func13 rfl rfl rfl ((g_Merge _ (by assumption) (by first | omega | (simp; omega) | simp))) | exact OpH.callFW Try.func30 rfl rfl rfl ((g_eSort _ (by first | omega | (simp; omega) | simp)))) : p := h
set_option maxRecDepth 100000 in
set_option maxHeartbeats 2000000 in
theorem g_Build0 (rs : List Rte) (ht : TableR rs) (hl : rs.length ≤ 1000) : Good Try.prog 18 [.sl 4 (rs.map encR), .val (.int .i64 0)] (.row 35 45 6 ((buildE rs 0).map encE)) := by
  have gS := g_eSort (rs.map entR) (by rw [List.length_map]; omega)
  have gM := g_Mode 0
  rw [show decide ((0 : Int) ≤ 0 ∧ (0 : Int) ≤ 2) = true from rfl] at gM
  rw [show buildE rs 0 = sortE (rs.map entR) by unfold buildE; rw [if_pos rfl]]
  refine Good.of_body (T := [(0, _), (1, _)]) Try.func18 rfl rfl rfl ?_
  intro K0 w0 hno
  repeat' (first | refine CT.seqR ?_ | refine CT.region ?_ | refine CT.seq1 ?_ | refine CT.block ?_ | refine CT.condT rfl ?_ | refine CT.condF rfl ?_ | refine CT.condD rfl (fun _ => ?_) (fun _ => ?_) | refine CT.condN rfl (fun _ => ?_) (fun _ => ?_) | refine CT.cond rfl (fun _ => ?_) (fun _ => ?_) | refine CT.skip ?_ | refine CT.exit ?_ | refine CT.ret ?_ | refine CT.goto ?_ | refine CT.label ?_ | refine LT.nil ?_ | refine HT.nil1 ?_ | (refine LT.consT ?_; (first | refine T.alloc (e := 56) (z := .agg #[.int .u64 0, .int .u64 0, .int .i64 0, .int .i64 0]) (cs := [.val (.int .u64 0), .val (.int .u64 0), .val (.int .i64 0), .val (.int .i64 0)]) (by kernel_rfl) rfl (by decide) rfl rfl ?_ | refine T.store (t := 56) rfl rfl rfl (by kernel_rfl) (by kernel_rfl) (Nat.le_of_ble_eq_true (by kernel_rfl)) rfl rfl ?_ | refine T.appNil (t := 22) (e := 45) (k := 6) (bytes := 48) rfl rfl srP (by kernel_rfl) szP (by decide) rfl ?_ | refine T.app (t := 22) (e := 45) (k := 6) (bytes := 48) rfl rfl srP (by kernel_rfl) szP (by decide) rfl rfl ?_ | refine T.callRow Try.func13 rfl rfl rfl ((g_Merge _ (by assumption) (by first | omega | (simp; omega) | simp))) (by decide) rfl ?_ | refine T.callRow Try.func30 rfl rfl rfl ((g_eSort _ (by first | omega | (simp; omega) | simp))) (by decide) rfl ?_)) | (apply LT.cons1; (first | exact OpH.callF Try.func21 rfl rfl rfl gM rfl | exact arm18_1); decide))
  refine CT.loopX (fun k : Nat => (⟨[(1, .val (.int .i64 0)), (5, .row 5 45 6 (((rs.take k).map entR).map encE)), (15, .sl 4 (rs.map encR)), (16, .val (.int .i64 rs.length)), (17, .val (.int .i64 k))], [], []⟩ : St))
    (fun k => k ≤ rs.length) (fun k => rs.length - k) 0 ?_ (by omega) ?_
  · rw [List.take_zero, List.map_nil]
    (apply Sub.mk; (focus (repeat (first | exact .nil | refine .other (.keep rfl rfl) ?_ | refine .other (.aref rfl rfl rfl) ?_ | refine .other (.val rfl (by first | rfl | (congr 1; first | omega | assumption | (symm; assumption)) | (simp; omega))) ?_ | refine .other .dead ?_ | refine .other (.sl rfl (.row _ _ _ _) rfl) ?_ | refine .other (.sl rfl (.sl _ _) rfl) ?_ | refine .other (.sl rfl (.full _ _) rfl) ?_ | refine .other (.slNil rfl rfl) ?_ | refine .rowNil rfl rfl rfl ?_ | refine .row rfl (by first | rfl | assumption | (rw [← List.map_append]; first | done | rfl | congr 1)) rfl rfl ?_))); (focus (repeat (first | exact .nil | refine KeepB.same rfl rfl rfl ?_ | refine KeepB.sameA rfl rfl rfl ?_))); (focus (repeat (first | exact .nil | refine KeepA.cons rfl (by first | rfl | assumption | exact List.map_set | exact List.map_set.symm | (rw [← List.map_append]; first | done | rfl | congr 1) | (congr 1; first | omega | assumption)) ?_))))
  rintro k hk
  by_cases hlt : k < rs.length
  · have hkl : ((rs.take k).map entR).length = k := by rw [List.length_map, List.length_take]; omega
    have gO := g_eOfR rs[k] (ht.canon _ (List.getElem_mem hlt))
    obtain ⟨e, he⟩ : ∃ e, entR rs[k] = e := ⟨_, rfl⟩
    rw [he] at gO
    repeat' (first | refine CT.seqR ?_ | refine CT.region ?_ | refine CT.seq1 ?_ | refine CT.block ?_ | refine CT.condT rfl ?_ | refine CT.condF rfl ?_ | refine CT.condD rfl (fun _ => ?_) (fun _ => ?_) | refine CT.condN rfl (fun _ => ?_) (fun _ => ?_) | refine CT.cond rfl (fun _ => ?_) (fun _ => ?_) | refine CT.skip ?_ | refine CT.exit ?_ | refine CT.ret ?_ | refine CT.goto ?_ | refine CT.label ?_ | refine LT.nil ?_ | refine HT.nil1 ?_ | (refine LT.consT ?_; (first | refine T.alloc (e := 56) (z := .agg #[.int .u64 0, .int .u64 0, .int .i64 0, .int .i64 0]) (cs := [.val (.int .u64 0), .val (.int .u64 0), .val (.int .i64 0), .val (.int .i64 0)]) (by kernel_rfl) rfl (by decide) rfl rfl ?_ | refine T.store (t := 56) rfl rfl rfl (by kernel_rfl) (by kernel_rfl) (Nat.le_of_ble_eq_true (by kernel_rfl)) rfl rfl ?_ | refine T.appNil (t := 22) (e := 45) (k := 6) (bytes := 48) rfl rfl srP (by kernel_rfl) szP (by decide) rfl ?_ | refine T.app (t := 22) (e := 45) (k := 6) (bytes := 48) rfl rfl srP (by kernel_rfl) szP (by decide) rfl rfl ?_ | refine T.callRow Try.func13 rfl rfl rfl ((g_Merge _ (by assumption) (by first | omega | (simp; omega) | simp))) (by decide) rfl ?_ | refine T.callRow Try.func30 rfl rfl rfl ((g_eSort _ (by first | omega | (simp; omega) | simp))) (by decide) rfl ?_)) | (apply LT.cons1; (first | exact OpH.callF Try.func38 rfl rfl rfl gO rfl | exact arm18_1); decide))
    refine ⟨k + 1, by omega, by omega, ?_⟩
    rw [ents_take hlt, he]
    (apply Sub.mk; (focus (repeat (first | exact .nil | refine .other (.keep rfl rfl) ?_ | refine .other (.aref rfl rfl rfl) ?_ | refine .other (.val rfl (by first | rfl | (congr 1; first | omega | assumption | (symm; assumption)) | (simp; omega))) ?_ | refine .other .dead ?_ | refine .other (.sl rfl (.row _ _ _ _) rfl) ?_ | refine .other (.sl rfl (.sl _ _) rfl) ?_ | refine .other (.sl rfl (.full _ _) rfl) ?_ | refine .other (.slNil rfl rfl) ?_ | refine .rowNil rfl rfl rfl ?_ | refine .row rfl (by first | rfl | assumption | (rw [← List.map_append]; first | done | rfl | congr 1)) rfl rfl ?_))); (focus (repeat (first | exact .nil | refine KeepB.same rfl rfl rfl ?_ | refine KeepB.sameA rfl rfl rfl ?_))); (focus (repeat (first | exact .nil | refine KeepA.cons rfl (by first | rfl | assumption | exact List.map_set | exact List.map_set.symm | (rw [← List.map_append]; first | done | rfl | congr 1) | (congr 1; first | omega | assumption)) ?_))))
  · obtain rfl : k = rs.length := by omega
    rw [List.take_length]
    repeat' (first | (refine LT.consT ?_; refine T.callRow Try.func30 rfl rfl rfl gS (by decide) rfl ?_) | refine CT.seqR ?_ | refine CT.region ?_ | refine CT.seq1 ?_ | refine CT.block ?_ | refine CT.condT rfl ?_ | refine CT.condF rfl ?_ | refine CT.condD rfl (fun _ => ?_) (fun _ => ?_) | refine CT.condN rfl (fun _ => ?_) (fun _ => ?_) | refine CT.cond rfl (fun _ => ?_) (fun _ => ?_) | refine CT.skip ?_ | refine CT.exit ?_ | refine CT.ret ?_ | refine CT.goto ?_ | refine CT.label ?_ | refine LT.nil ?_ | refine HT.nil1 ?_ | (refine LT.consT ?_; (first | refine T.alloc (e := 56) (z := .agg #[.int .u64 0, .int .u64 0, .int .i64 0, .int .i64 0]) (cs := [.val (.int .u64 0), .val (.int .u64 0), .val (.int .i64 0), .val (.int .i64 0)]) (by kernel_rfl) rfl (by decide) rfl rfl ?_ | refine T.store (t := 56) rfl rfl rfl (by kernel_rfl) (by kernel_rfl) (Nat.le_of_ble_eq_true (by kernel_rfl)) rfl rfl ?_ | refine T.appNil (t := 22) (e := 45) (k := 6) (bytes := 48) rfl rfl srP (by kernel_rfl) szP (by decide) rfl ?_ | refine T.app (t := 22) (e := 45) (k := 6) (bytes := 48) rfl rfl srP (by kernel_rfl) szP (by decide) rfl rfl ?_ | refine T.callRow Try.func13 rfl rfl rfl ((g_Merge _ (by assumption) (by first | omega | (simp; omega) | simp))) (by decide) rfl ?_ | refine T.callRow Try.func30 rfl rfl rfl ((g_eSort _ (by first | omega | (simp; omega) | simp))) (by decide) rfl ?_)) | (apply LT.cons1; (first | exact arm18_1); decide))
    refine ⟨by first | exact .inl rfl | exact .inr rfl, _, (.cons (.tmp 4 (A := .row _ _ _ _) rfl (fun _ h => by cases h)) .nil), ?_, rfl⟩
    rfl
set_option maxRecDepth 100000 in
set_option maxHeartbeats 2000000 in
theorem g_Build1 (rs : List Rte) (ht : TableR rs) (hl : rs.length ≤ 1000) : Good Try.prog 18 [.sl 4 (rs.map encR), .val (.int .i64 1)] (.row 35 45 6 ((buildE rs 1).map encE)) := by
  have hkl := keepR_length ht
  have hkc := keepR_canon ht
  have gK := g_Keep rs ht (by omega)
  have gM := g_Mode 1
  rw [show decide ((0 : Int) ≤ 1 ∧ (1 : Int) ≤ 2) = true from rfl] at gM
  rw [show buildE rs 1 = sortE ((keepR rs).map entR) by unfold buildE; rw [if_neg (by decide), if_pos rfl]]
  generalize keepR rs = ks at hkl hkc gK ⊢
  have gS := g_eSort (ks.map entR) (by rw [List.length_map]; omega)
  refine Good.of_body (T := [(0, _), (1, _)]) Try.func18 rfl rfl rfl ?_
  intro K0 w0 hno
  repeat' (first | (refine LT.consT ?_; refine T.callRow Try.func37 rfl rfl rfl gK (by decide) rfl ?_) | refine CT.seqR ?_ | refine CT.region ?_ | refine CT.seq1 ?_ | refine CT.block ?_ | refine CT.condT rfl ?_ | refine CT.condF rfl ?_ | refine CT.condD rfl (fun _ => ?_) (fun _ => ?_) | refine CT.condN rfl (fun _ => ?_) (fun _ => ?_) | refine CT.cond rfl (fun _ => ?_) (fun _ => ?_) | refine CT.skip ?_ | refine CT.exit ?_ | refine CT.ret ?_ | refine CT.goto ?_ | refine CT.label ?_ | refine LT.nil ?_ | refine HT.nil1 ?_ | (refine LT.consT ?_; (first | refine T.alloc (e := 56) (z := .agg #[.int .u64 0, .int .u64 0, .int .i64 0, .int .i64 0]) (cs := [.val (.int .u64 0), .val (.int .u64 0), .val (.int .i64 0), .val (.int .i64 0)]) (by kernel_rfl) rfl (by decide) rfl rfl ?_ | refine T.store (t := 56) rfl rfl rfl (by kernel_rfl) (by kernel_rfl) (Nat.le_of_ble_eq_true (by kernel_rfl)) rfl rfl ?_ | refine T.appNil (t := 22) (e := 45) (k := 6) (bytes := 48) rfl rfl srP (by kernel_rfl) szP (by decide) rfl ?_ | refine T.app (t := 22) (e := 45) (k := 6) (bytes := 48) rfl rfl srP (by kernel_rfl) szP (by decide) rfl rfl ?_ | refine T.callRow Try.func13 rfl rfl rfl ((g_Merge _ (by assumption) (by first | omega | (simp; omega) | simp))) (by decide) rfl ?_ | refine T.callRow Try.func30 rfl rfl rfl ((g_eSort _ (by first | omega | (simp; omega) | simp))) (by decide) rfl ?_)) | (apply LT.cons1; (first | exact OpH.callF Try.func21 rfl rfl rfl gM rfl | exact arm18_1); decide))
  refine CT.loopX (fun k : Nat => (⟨[(1, .val (.int .i64 1)), (5, .row 5 45 6 (((ks.take k).map entR).map encE)), (15, .row 15 56 4 (ks.map encR)), (16, .val (.int .i64 ks.length)), (17, .val (.int .i64 k))], [], []⟩ : St))
    (fun k => k ≤ ks.length) (fun k => ks.length - k) 0 ?_ (by omega) ?_
  · rw [List.take_zero, List.map_nil]
    (apply Sub.mk; (focus (repeat (first | exact .nil | refine .other (.keep rfl rfl) ?_ | refine .other (.aref rfl rfl rfl) ?_ | refine .other (.val rfl (by first | rfl | (congr 1; first | omega | assumption | (symm; assumption)) | (simp; omega))) ?_ | refine .other .dead ?_ | refine .other (.sl rfl (.row _ _ _ _) rfl) ?_ | refine .other (.sl rfl (.sl _ _) rfl) ?_ | refine .other (.sl rfl (.full _ _) rfl) ?_ | refine .other (.slNil rfl rfl) ?_ | refine .rowNil rfl rfl rfl ?_ | refine .row rfl (by first | rfl | assumption | (rw [← List.map_append]; first | done | rfl | congr 1)) rfl rfl ?_))); (focus (repeat (first | exact .nil | refine KeepB.same rfl rfl rfl ?_ | refine KeepB.sameA rfl rfl rfl ?_))); (focus (repeat (first | exact .nil | refine KeepA.cons rfl (by first | rfl | assumption | exact List.map_set | exact List.map_set.symm | (rw [← List.map_append]; first | done | rfl | congr 1) | (congr 1; first | omega | assumption)) ?_))))
  rintro k hk
  by_cases hlt : k < ks.length
  · have hkl2 : ((ks.take k).map entR).length = k := by rw [List.length_map, List.length_take]; omega
    have gO := g_eOfR ks[k] (hkc _ (List.getElem_mem hlt))
    obtain ⟨e, he⟩ : ∃ e, entR ks[k] = e := ⟨_, rfl⟩
    rw [he] at gO
    repeat' (first | refine CT.seqR ?_ | refine CT.region ?_ | refine CT.seq1 ?_ | refine CT.block ?_ | refine CT.condT rfl ?_ | refine CT.condF rfl ?_ | refine CT.condD rfl (fun _ => ?_) (fun _ => ?_) | refine CT.condN rfl (fun _ => ?_) (fun _ => ?_) | refine CT.cond rfl (fun _ => ?_) (fun _ => ?_) | refine CT.skip ?_ | refine CT.exit ?_ | refine CT.ret ?_ | refine CT.goto ?_ | refine CT.label ?_ | refine LT.nil ?_ | refine HT.nil1 ?_ | (refine LT.consT ?_; (first | refine T.alloc (e := 56) (z := .agg #[.int .u64 0, .int .u64 0, .int .i64 0, .int .i64 0]) (cs := [.val (.int .u64 0), .val (.int .u64 0), .val (.int .i64 0), .val (.int .i64 0)]) (by kernel_rfl) rfl (by decide) rfl rfl ?_ | refine T.store (t := 56) rfl rfl rfl (by kernel_rfl) (by kernel_rfl) (Nat.le_of_ble_eq_true (by kernel_rfl)) rfl rfl ?_ | refine T.appNil (t := 22) (e := 45) (k := 6) (bytes := 48) rfl rfl srP (by kernel_rfl) szP (by decide) rfl ?_ | refine T.app (t := 22) (e := 45) (k := 6) (bytes := 48) rfl rfl srP (by kernel_rfl) szP (by decide) rfl rfl ?_ | refine T.callRow Try.func13 rfl rfl rfl ((g_Merge _ (by assumption) (by first | omega | (simp; omega) | simp))) (by decide) rfl ?_ | refine T.callRow Try.func30 rfl rfl rfl ((g_eSort _ (by first | omega | (simp; omega) | simp))) (by decide) rfl ?_)) | (apply LT.cons1; (first | exact OpH.callF Try.func38 rfl rfl rfl gO rfl | exact arm18_1); decide))
    refine ⟨k + 1, by omega, by omega, ?_⟩
    rw [ents_take hlt, he]
    (apply Sub.mk; (focus (repeat (first | exact .nil | refine .other (.keep rfl rfl) ?_ | refine .other (.aref rfl rfl rfl) ?_ | refine .other (.val rfl (by first | rfl | (congr 1; first | omega | assumption | (symm; assumption)) | (simp; omega))) ?_ | refine .other .dead ?_ | refine .other (.sl rfl (.row _ _ _ _) rfl) ?_ | refine .other (.sl rfl (.sl _ _) rfl) ?_ | refine .other (.sl rfl (.full _ _) rfl) ?_ | refine .other (.slNil rfl rfl) ?_ | refine .rowNil rfl rfl rfl ?_ | refine .row rfl (by first | rfl | assumption | (rw [← List.map_append]; first | done | rfl | congr 1)) rfl rfl ?_))); (focus (repeat (first | exact .nil | refine KeepB.same rfl rfl rfl ?_ | refine KeepB.sameA rfl rfl rfl ?_))); (focus (repeat (first | exact .nil | refine KeepA.cons rfl (by first | rfl | assumption | exact List.map_set | exact List.map_set.symm | (rw [← List.map_append]; first | done | rfl | congr 1) | (congr 1; first | omega | assumption)) ?_))))
  · obtain rfl : k = ks.length := by omega
    rw [List.take_length]
    repeat' (first | (refine LT.consT ?_; refine T.callRow Try.func30 rfl rfl rfl gS (by decide) rfl ?_) | refine CT.seqR ?_ | refine CT.region ?_ | refine CT.seq1 ?_ | refine CT.block ?_ | refine CT.condT rfl ?_ | refine CT.condF rfl ?_ | refine CT.condD rfl (fun _ => ?_) (fun _ => ?_) | refine CT.condN rfl (fun _ => ?_) (fun _ => ?_) | refine CT.cond rfl (fun _ => ?_) (fun _ => ?_) | refine CT.skip ?_ | refine CT.exit ?_ | refine CT.ret ?_ | refine CT.goto ?_ | refine CT.label ?_ | refine LT.nil ?_ | refine HT.nil1 ?_ | (refine LT.consT ?_; (first | refine T.alloc (e := 56) (z := .agg #[.int .u64 0, .int .u64 0, .int .i64 0, .int .i64 0]) (cs := [.val (.int .u64 0), .val (.int .u64 0), .val (.int .i64 0), .val (.int .i64 0)]) (by kernel_rfl) rfl (by decide) rfl rfl ?_ | refine T.store (t := 56) rfl rfl rfl (by kernel_rfl) (by kernel_rfl) (Nat.le_of_ble_eq_true (by kernel_rfl)) rfl rfl ?_ | refine T.appNil (t := 22) (e := 45) (k := 6) (bytes := 48) rfl rfl srP (by kernel_rfl) szP (by decide) rfl ?_ | refine T.app (t := 22) (e := 45) (k := 6) (bytes := 48) rfl rfl srP (by kernel_rfl) szP (by decide) rfl rfl ?_ | refine T.callRow Try.func13 rfl rfl rfl ((g_Merge _ (by assumption) (by first | omega | (simp; omega) | simp))) (by decide) rfl ?_ | refine T.callRow Try.func30 rfl rfl rfl ((g_eSort _ (by first | omega | (simp; omega) | simp))) (by decide) rfl ?_)) | (apply LT.cons1; (first | exact arm18_1); decide))
    refine ⟨by first | exact .inl rfl | exact .inr rfl, _, (.cons (.tmp 4 (A := .row _ _ _ _) rfl (fun _ h => by cases h)) .nil), ?_, rfl⟩
    rfl
set_option maxRecDepth 100000 in
set_option maxHeartbeats 2000000 in
theorem g_Build2 (rs : List Rte) (ht : TableR rs) (hl : rs.length ≤ 1000) : Good Try.prog 18 [.sl 4 (rs.map encR), .val (.int .i64 2)] (.row 33 45 6 ((buildE rs 2).map encE)) := by
  have hkl := keepR_length ht
  have hkc := keepR_canon ht
  have gK := g_Keep rs ht (by omega)
  have gM := g_Mode 2
  rw [show decide ((0 : Int) ≤ 2 ∧ (2 : Int) ≤ 2) = true from rfl] at gM
  rw [show buildE rs 2 = mergeE ((keepR rs).map entR) by unfold buildE; rw [if_neg (by decide), if_neg (by decide)]]
  generalize keepR rs = ks at hkl hkc gK ⊢
  have gS := g_Merge (ks.map entR) (ents_ok hkc) (by rw [List.length_map]; omega)
  refine Good.of_body (T := [(0, _), (1, _)]) Try.func18 rfl rfl rfl ?_
  intro K0 w0 hno
  repeat' (first | (refine LT.consT ?_; refine T.callRow Try.func37 rfl rfl rfl gK (by decide) rfl ?_) | refine CT.seqR ?_ | refine CT.region ?_ | refine CT.seq1 ?_ | refine CT.block ?_ | refine CT.condT rfl ?_ | refine CT.condF rfl ?_ | refine CT.condD rfl (fun _ => ?_) (fun _ => ?_) | refine CT.condN rfl (fun _ => ?_) (fun _ => ?_) | refine CT.cond rfl (fun _ => ?_) (fun _ => ?_) | refine CT.skip ?_ | refine CT.exit ?_ | refine CT.ret ?_ | refine CT.goto ?_ | refine CT.label ?_ | refine LT.nil ?_ | refine HT.nil1 ?_ | (refine LT.consT ?_; (first | refine T.alloc (e := 56) (z := .agg #[.int .u64 0, .int .u64 0, .int .i64 0, .int .i64 0]) (cs := [.val (.int .u64 0), .val (.int .u64 0), .val (.int .i64 0), .val (.int .i64 0)]) (by kernel_rfl) rfl (by decide) rfl rfl ?_ | refine T.store (t := 56) rfl rfl rfl (by kernel_rfl) (by kernel_rfl) (Nat.le_of_ble_eq_true (by kernel_rfl)) rfl rfl ?_ | refine T.appNil (t := 22) (e := 45) (k := 6) (bytes := 48) rfl rfl srP (by kernel_rfl) szP (by decide) rfl ?_ | refine T.app (t := 22) (e := 45) (k := 6) (bytes := 48) rfl rfl srP (by kernel_rfl) szP (by decide) rfl rfl ?_ | refine T.callRow Try.func13 rfl rfl rfl ((g_Merge _ (by assumption) (by first | omega | (simp; omega) | simp))) (by decide) rfl ?_ | refine T.callRow Try.func30 rfl rfl rfl ((g_eSort _ (by first | omega | (simp; omega) | simp))) (by decide) rfl ?_)) | (apply LT.cons1; (first | exact OpH.callF Try.func21 rfl rfl rfl gM rfl | exact arm18_1); decide))
  refine CT.loopX (fun k : Nat => (⟨[(1, .val (.int .i64 2)), (5, .row 5 45 6 (((ks.take k).map entR).map encE)), (15, .row 15 56 4 (ks.map encR)), (16, .val (.int .i64 ks.length)), (17, .val (.int .i64 k))], [], []⟩ : St))
    (fun k => k ≤ ks.length) (fun k => ks.length - k) 0 ?_ (by omega) ?_
  · rw [List.take_zero, List.map_nil]
    (apply Sub.mk; (focus (repeat (first | exact .nil | refine .other (.keep rfl rfl) ?_ | refine .other (.aref rfl rfl rfl) ?_ | refine .other (.val rfl (by first | rfl | (congr 1; first | omega | assumption | (symm; assumption)) | (simp; omega))) ?_ | refine .other .dead ?_ | refine .other (.sl rfl (.row _ _ _ _) rfl) ?_ | refine .other (.sl rfl (.sl _ _) rfl) ?_ | refine .other (.sl rfl (.full _ _) rfl) ?_ | refine .other (.slNil rfl rfl) ?_ | refine .rowNil rfl rfl rfl ?_ | refine .row rfl (by first | rfl | assumption | (rw [← List.map_append]; first | done | rfl | congr 1)) rfl rfl ?_))); (focus (repeat (first | exact .nil | refine KeepB.same rfl rfl rfl ?_ | refine KeepB.sameA rfl rfl rfl ?_))); (focus (repeat (first | exact .nil | refine KeepA.cons rfl (by first | rfl | assumption | exact List.map_set | exact List.map_set.symm | (rw [← List.map_append]; first | done | rfl | congr 1) | (congr 1; first | omega | assumption)) ?_))))
  rintro k hk
  by_cases hlt : k < ks.length
  · have hkl2 : ((ks.take k).map entR).length = k := by rw [List.length_map, List.length_take]; omega
    have gO := g_eOfR ks[k] (hkc _ (List.getElem_mem hlt))
    obtain ⟨e, he⟩ : ∃ e, entR ks[k] = e := ⟨_, rfl⟩
    rw [he] at gO
    repeat' (first | refine CT.seqR ?_ | refine CT.region ?_ | refine CT.seq1 ?_ | refine CT.block ?_ | refine CT.condT rfl ?_ | refine CT.condF rfl ?_ | refine CT.condD rfl (fun _ => ?_) (fun _ => ?_) | refine CT.condN rfl (fun _ => ?_) (fun _ => ?_) | refine CT.cond rfl (fun _ => ?_) (fun _ => ?_) | refine CT.skip ?_ | refine CT.exit ?_ | refine CT.ret ?_ | refine CT.goto ?_ | refine CT.label ?_ | refine LT.nil ?_ | refine HT.nil1 ?_ | (refine LT.consT ?_; (first | refine T.alloc (e := 56) (z := .agg #[.int .u64 0, .int .u64 0, .int .i64 0, .int .i64 0]) (cs := [.val (.int .u64 0), .val (.int .u64 0), .val (.int .i64 0), .val (.int .i64 0)]) (by kernel_rfl) rfl (by decide) rfl rfl ?_ | refine T.store (t := 56) rfl rfl rfl (by kernel_rfl) (by kernel_rfl) (Nat.le_of_ble_eq_true (by kernel_rfl)) rfl rfl ?_ | refine T.appNil (t := 22) (e := 45) (k := 6) (bytes := 48) rfl rfl srP (by kernel_rfl) szP (by decide) rfl ?_ | refine T.app (t := 22) (e := 45) (k := 6) (bytes := 48) rfl rfl srP (by kernel_rfl) szP (by decide) rfl rfl ?_ | refine T.callRow Try.func13 rfl rfl rfl ((g_Merge _ (by assumption) (by first | omega | (simp; omega) | simp))) (by decide) rfl ?_ | refine T.callRow Try.func30 rfl rfl rfl ((g_eSort _ (by first | omega | (simp; omega) | simp))) (by decide) rfl ?_)) | (apply LT.cons1; (first | exact OpH.callF Try.func38 rfl rfl rfl gO rfl | exact arm18_1); decide))
    refine ⟨k + 1, by omega, by omega, ?_⟩
    rw [ents_take hlt, he]
    (apply Sub.mk; (focus (repeat (first | exact .nil | refine .other (.keep rfl rfl) ?_ | refine .other (.aref rfl rfl rfl) ?_ | refine .other (.val rfl (by first | rfl | (congr 1; first | omega | assumption | (symm; assumption)) | (simp; omega))) ?_ | refine .other .dead ?_ | refine .other (.sl rfl (.row _ _ _ _) rfl) ?_ | refine .other (.sl rfl (.sl _ _) rfl) ?_ | refine .other (.sl rfl (.full _ _) rfl) ?_ | refine .other (.slNil rfl rfl) ?_ | refine .rowNil rfl rfl rfl ?_ | refine .row rfl (by first | rfl | assumption | (rw [← List.map_append]; first | done | rfl | congr 1)) rfl rfl ?_))); (focus (repeat (first | exact .nil | refine KeepB.same rfl rfl rfl ?_ | refine KeepB.sameA rfl rfl rfl ?_))); (focus (repeat (first | exact .nil | refine KeepA.cons rfl (by first | rfl | assumption | exact List.map_set | exact List.map_set.symm | (rw [← List.map_append]; first | done | rfl | congr 1) | (congr 1; first | omega | assumption)) ?_))))
  · obtain rfl : k = ks.length := by omega
    rw [List.take_length]
    repeat' (first | (refine LT.consT ?_; refine T.callRow Try.func13 rfl rfl rfl gS (by decide) rfl ?_) | refine CT.seqR ?_ | refine CT.region ?_ | refine CT.seq1 ?_ | refine CT.block ?_ | refine CT.condT rfl ?_ | refine CT.condF rfl ?_ | refine CT.condD rfl (fun _ => ?_) (fun _ => ?_) | refine CT.condN rfl (fun _ => ?_) (fun _ => ?_) | refine CT.cond rfl (fun _ => ?_) (fun _ => ?_) | refine CT.skip ?_ | refine CT.exit ?_ | refine CT.ret ?_ | refine CT.goto ?_ | refine CT.label ?_ | refine LT.nil ?_ | refine HT.nil1 ?_ | (refine LT.consT ?_; (first | refine T.alloc (e := 56) (z := .agg #[.int .u64 0, .int .u64 0, .int .i64 0, .int .i64 0]) (cs := [.val (.int .u64 0), .val (.int .u64 0), .val (.int .i64 0), .val (.int .i64 0)]) (by kernel_rfl) rfl (by decide) rfl rfl ?_ | refine T.store (t := 56) rfl rfl rfl (by kernel_rfl) (by kernel_rfl) (Nat.le_of_ble_eq_true (by kernel_rfl)) rfl rfl ?_ | refine T.appNil (t := 22) (e := 45) (k := 6) (bytes := 48) rfl rfl srP (by kernel_rfl) szP (by decide) rfl ?_ | refine T.app (t := 22) (e := 45) (k := 6) (bytes := 48) rfl rfl srP (by kernel_rfl) szP (by decide) rfl rfl ?_ | refine T.callRow Try.func13 rfl rfl rfl ((g_Merge _ (by assumption) (by first | omega | (simp; omega) | simp))) (by decide) rfl ?_ | refine T.callRow Try.func30 rfl rfl rfl ((g_eSort _ (by first | omega | (simp; omega) | simp))) (by decide) rfl ?_)) | (apply LT.cons1; (first | exact arm18_1); decide))
    refine ⟨by first | exact .inl rfl | exact .inr rfl, _, (.cons (.tmp 4 (A := .row _ _ _ _) rfl (fun _ h => by cases h)) .nil), ?_, rfl⟩
    rfl
end Go.Proofs.Ytjibochjmmehcaa

/- The two halves that the document speaks of: law10.awake. -/
namespace Go.Proofs.Ytjibochjmmehcaa
set_option linter.unusedSimpArgs false
set_option linter.unusedVariables false
open Go Go.RowKit Go.Shelf
theorem same_true {P : Program} {f : FuncId} {As : List AV} {xs : List Ent} (h : Good P f As (.val (.bool (decide (xs = xs))))) : Good P f As (.val (.bool true)) := by
  rwa [decide_eq_true rfl] at h
theorem bool_iff (q : Prop) : ∃ b : Bool, b = true ↔ q := by
  by_cases h : q
  · exact ⟨true, by simp [h]⟩
  · exact ⟨false, by simp [h]⟩
def awA : Rte := ⟨pMake ⟨720575940379279360, 0⟩ 9, 1⟩
def awB : Rte := ⟨pMake ⟨756604737398243328, 0⟩ 9, 1⟩
theorem canon_awA : Canon awA.p := (right_canon ⟨⟨by decide +kernel, by decide +kernel⟩, by decide +kernel, by decide +kernel⟩).1 (by decide +kernel)
theorem canon_awB : Canon awB.p := (right_canon ⟨⟨by decide +kernel, by decide +kernel⟩, by decide +kernel, by decide +kernel⟩).1 (by decide +kernel)
theorem aw_two {r : Rte} (h : r ∈ [awA, awB]) : r = awA ∨ r = awB := by simpa using h
theorem table_aw : TableR [awA, awB] := by
  refine ⟨fun r hr => ?_, fun r hr => ?_, ?_⟩
  · rcases aw_two hr with rfl | rfl
    · exact canon_awA
    · exact canon_awB
  · rcases aw_two hr with rfl | rfl <;> exact ⟨by decide, by decide⟩
  · refine List.pairwise_cons.2 ⟨fun y hy => ?_, List.pairwise_singleton _ _⟩
    rw [List.mem_singleton.1 hy]
    show pCmp awA.p awB.p < 0
    decide +kernel
theorem keep_aw : keepR [awA, awB] = [awA, awB] := keepR_is table_aw ⟨fun r h => h, table_aw.sorted, fun r hr => ⟨fun _ c hc => by
  have h1 : c.p.len = 9 := by rcases aw_two hc.mem with rfl | rfl <;> rfl
  have h2 : r.p.len = 9 := by rcases aw_two hr with rfl | rfl <;> rfl
  have := hc.short
  omega, fun _ => hr⟩⟩
theorem sort_one (x : Ent) : sortE [x] = [x] := (sortE_unique (List.Perm.refl _) (List.pairwise_singleton _ _)).symm
theorem step_one (x : Ent) : stepM [x] = none := by
  cases h : stepM [x] with
  | none => rfl
  | some l' =>
    exfalso
    unfold stepM at h
    rw [Option.map_eq_some_iff] at h
    obtain ⟨⟨i, k⟩, h1, _⟩ := h
    obtain ⟨h2, h3, _⟩ := fst2_spec h1
    simp only [List.length_singleton] at h3
    omega
theorem build_aw : ∃ e : Ent, buildE [awA, awB] 2 = [e] ∧ e.len = 9 ∧ e.w.ok ∧ aOnes (aNot e.w.m) = 120 := by
  refine ⟨mEnt [entR awA, entR awB] 0 1, ?_, rfl, ?_, by decide +kernel⟩
  · have e1 : buildE [awA, awB] 2 = mergeE [entR awA, entR awB] := by
      unfold buildE
      rw [if_neg (by decide), if_neg (by decide), keep_aw]; rfl
    have e2 : sortE [entR awA, entR awB] = [entR awA, entR awB] := (sortE_unique (List.Perm.refl _) (List.pairwise_cons.2 ⟨fun y hy => by rw [List.mem_singleton.1 hy]; decide +kernel, List.pairwise_singleton _ _⟩)).symm
    have e3 : fst2 [entR awA, entR awB] = some (0, 1) := fst2_some (by decide) (by decide) (by decide +kernel) fun p q h1 h2 h3 => by
      simp only [List.length_cons, List.length_nil] at h2
      omega
    have e4 : stepM [entR awA, entR awB] = some [mEnt [entR awA, entR awB] 0 1] := by
      unfold stepM
      rw [e3]
      show some (sortE [mEnt [entR awA, entR awB] 0 1]) = _
      rw [sort_one]
    rw [e1]
    show mergeN [entR awA, entR awB].length (sortE [entR awA, entR awB]) = _
    rw [e2, mergeN_some e4]
    exact mergeN_none (step_one _) _
  · exact wMerge_ok (entR_ok canon_awA) (entR_ok canon_awB)
attribute [local irreducible] OpH OpT LT CT HT Good
theorem arm10_1 {p : Prop} (h : p := by first | exact OpH.assign (v := .val _) rfl | exact OpH.assign (v := .sl _ _) rfl | exact OpH.assign (v := .row _ _ _ _) rfl | exact OpH.assign (v := .full _ _) rfl | exact OpH.assign (v := .ptr _ _) rfl | exact OpH.assign (v := .cptr _) rfl | exact OpH.assign (v := .cloB _ _) rfl | exact OpH.assign (v := .clo _ _) rfl | exact OpH.assign (v := .pr _) rfl | exact OpH.assign (v := .arow _) rfl | exact OpH.assign (v := .aptr _ _ _ _) rfl | exact OpH.assign (v := .asub _ _ _ _) rfl | exact OpH.assign (v := .tup _) rfl | exact build_41_0 rfl | exact OpH.build (t := 41) (cells := #[_, _]) (by kernel_rfl) rfl | exact OpH.callF Try.func27 rfl rfl rfl (g_pMake _ _ _) rfl | exact build_56_0_1 rfl rfl | exact OpH.build (t := 56) (cells := #[_, _, _, _]) (by kernel_rfl) rfl | exact lit_31_2 rfl rfl | exact OpH.move (v := .val _) rfl | exact OpH.move (v := .sl _ _) rfl | exact OpH.move (v := .row _ _ _ _) rfl | exact OpH.move (v := .full _ _) rfl | exact OpH.move (v := .ptr _ _) rfl | exact OpH.move (v := .cptr _) rfl | exact OpH.move (v := .cloB _ _) rfl | exact OpH.move (v := .clo _ _) rfl | exact OpH.move (v := .pr _) rfl | exact OpH.move (v := .arow _) rfl | exact OpH.move (v := .aptr _ _ _ _) rfl | exact OpH.move (v := .asub _ _ _ _) rfl | exact OpH.move (v := .tup _) rfl | exact OpH.lenM (t := 22) rfl (.sl _ _) (by kernel_rfl) | exact OpH.lenM (t := 22) rfl (.row _ _ _ _) (by kernel_rfl) | exact OpH.lenM (t := 22) rfl (.full _ _) (by kernel_rfl) | exact OpH.len (t := 22) rfl slP (by kernel_rfl) | exact OpH.lenNil (t := 22) rfl (by kernel_rfl) | exact OpH.bin rfl rfl (pb_eql_t (by first | omega | assumption)) | exact OpH.bin rfl rfl (pb_eql_f (by first | omega | assumption)) | exact OpH.bin rfl rfl (pb_eql) | exact OpH.indexS (t := 22) (k := 6) (j := 0) rfl slP rfl rfl (by kernel_rfl) (map_at bd) rfl | exact OpH.fieldC (s := 45) (f := 1) (off := 4) rfl (by kernel_rfl) rfl | exact OpH.fieldB (s := 45) (f := 1) (off := 4) rfl (by kernel_rfl) rfl | exact OpH.loadC1 (t := 3) rfl (by kernel_rfl) rfl | exact OpH.loadB1 (t := 3) rfl rfl (by kernel_rfl) rfl | exact OpH.pick (b := true) (v := .val _) rfl rfl | exact OpH.pick (b := false) (v := .val _) rfl rfl | exact OpH.pick (b := true) (v := .sl _ _) rfl rfl | exact OpH.pick (b := false) (v := .sl _ _) rfl rfl | exact OpH.pick (b := true) (v := .row _ _ _ _) rfl rfl | exact OpH.pick (b := false) (v := .row _ _ _ _) rfl rfl | exact OpH.pick (b := true) (v := .full _ _) rfl rfl | exact OpH.pick (b := false) (v := .full _ _) rfl rfl | exact OpH.pickV rfl rfl rfl | exact OpH.fieldC (s := 45) (f := 0) (off := 0) rfl (by kernel_rfl) rfl | exact OpH.fieldB (s := 45) (f := 0) (off := 0) rfl (by kernel_rfl) rfl | exact loadC4 (t := 43) rfl (by kernel_rfl) | exact loadB4 (t := 43) rfl rfl (by kernel_rfl) rfl) : p := h
set_option maxRecDepth 100000 in
set_option maxHeartbeats 2000000 in
theorem g_awake10 : Good Try.prog 10 [] (.val (.bool true)) := by
  have g2 := g_Build2 [awA, awB] table_aw (by decide)
  have g0 := g_Build0 [awA, awB] table_aw (by decide)
  obtain ⟨e, he, hlen, hok, hfree⟩ := build_aw
  rw [he] at g2
  have h0 := (buildE_len table_aw).1
  obtain ⟨l0, hl0⟩ : ∃ l0, buildE [awA, awB] 0 = l0 := ⟨_, rfl⟩
  rw [hl0] at g0 h0
  have h0' : l0.length = 2 := h0
  have gS := g_mSimple [e] true (by simp [SimpleR]) (fun x hx => by rw [List.mem_singleton.1 hx]; exact hok) (by simp)
  have gF := g_wFree e.w hok
  rw [hfree] at gF
  have gM := g_Mode 2
  rw [show decide ((0 : Int) ≤ 2 ∧ (2 : Int) ≤ 2) = true from rfl] at gM
  refine Good.of_body (T := []) Try.func10 rfl rfl rfl ?_
  intro K0 w0 hno
  repeat' (first | (refine LT.consT ?_; refine T.callRow Try.func18 rfl rfl rfl g2 (by decide) rfl ?_) | refine CT.seqR ?_ | refine CT.region ?_ | refine CT.seq1 ?_ | refine CT.block ?_ | refine CT.condT rfl ?_ | refine CT.condF rfl ?_ | refine CT.condD rfl (fun _ => ?_) (fun _ => ?_) | refine CT.condN rfl (fun _ => ?_) (fun _ => ?_) | refine CT.cond rfl (fun _ => ?_) (fun _ => ?_) | refine CT.skip ?_ | refine CT.exit ?_ | refine CT.ret ?_ | refine CT.goto ?_ | refine CT.label ?_ | refine LT.nil ?_ | refine HT.nil1 ?_ | (apply LT.cons1; (first | exact OpH.callFW Try.func18 rfl rfl rfl g0 | exact OpH.callF Try.func15 rfl rfl rfl gS rfl | exact OpH.callF Try.func28 rfl rfl rfl gF rfl | exact OpH.callF Try.func21 rfl rfl rfl gM rfl | exact OpH.indexS (t := 22) (k := 6) (j := 0) rfl slP rfl rfl (by kernel_rfl) (map_at (show 0 < [e].length by simp)) rfl | exact arm10_1); decide) | (apply LT.guard1; rfl; rfl; rfl; decide; (first | exact OpH.callFW Try.func18 rfl rfl rfl g0 | exact OpH.callF Try.func15 rfl rfl rfl gS rfl | exact OpH.callF Try.func28 rfl rfl rfl gF rfl | exact OpH.callF Try.func21 rfl rfl rfl gM rfl | exact OpH.indexS (t := 22) (k := 6) (j := 0) rfl slP rfl rfl (by kernel_rfl) (map_at (show 0 < [e].length by simp)) rfl | exact arm10_1); decide) | refine LT.skip1 rfl rfl rfl (by decide) (by decide) ?_ | refine LT.skip2 rfl rfl (by decide) (by decide) ?_ | refine LT.partD rfl rfl (fun _ => ?_) (fun _ => ?_) | refine LT.partN rfl rfl (fun _ => ?_) (fun _ => ?_) | (refine LT.part1 rfl rfl (fun h => ?_) (fun h => ?_); (fail_if_success exact absurd h (by decide)); rotate_left; (fail_if_success exact absurd h (by decide)); rotate_left))
  refine ⟨by first | exact .inl rfl | exact .inr rfl, _, (.cons (.tmp 0 (A := .val _) rfl (fun _ h => by cases h)) .nil), ?_, rfl⟩
  rfl
end Go.Proofs.Ytjibochjmmehcaa
