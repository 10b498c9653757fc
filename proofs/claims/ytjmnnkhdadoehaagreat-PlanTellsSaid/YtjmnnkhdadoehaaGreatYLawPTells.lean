/- PlanTells: the walk. -/
import Derived.Test.YtjmnnkhdadoehaaGreatYTellsC
import Derived.Test.YtjmnnkhdadoehaaGreatYDiffL
namespace Go.Proofs.YtjmnnkhdadoehaaGreat
set_option linter.unusedSimpArgs false
set_option linter.unusedVariables false
open Go Go.RowKit Go.Shelf
theorem allPl_len (order : Int) : ∀ (ss : List Stp) (s : List Slt), (allPl order s ss).1.length ≤ ss.length * (s.length + 3)
  | [], s => by simp [allPl]
  | st :: ss, s => by
    have h1 := onePl_len order s st
    have h2 := allPl_len order ss (applyW s (onePl order s st).1)
    rw [applyW_len] at h2
    have e : (st :: ss).length * (s.length + 3) = ss.length * (s.length + 3) + (s.length + 3) := by rw [List.length_cons, Nat.add_mul, Nat.one_mul]
    rw [e]
    have hun : allPl order s (st :: ss) = if (onePl order s st).2 = 0 then (if (allPl order (applyW s (onePl order s st).1) ss).2 = 0 then ((onePl order s st).1 ++ (allPl order (applyW s (onePl order s st).1) ss).1, 0) else ([], (allPl order (applyW s (onePl order s st).1) ss).2)) else ([], (onePl order s st).2) := rfl
    rw [hun]
    split
    · split
      · rw [List.length_append]; omega
      · exact Nat.zero_le _
    · exact Nat.zero_le _
theorem applyW_next {l : List Slt} {ws : List Wrt} {k : Nat} (h : k < ws.length) : applyW l (ws.take (k + 1)) = applyW (applyW l (ws.take k)) [ws[k]] := by
  rw [List.take_succ_eq_append_getElem h, applyW_app]
attribute [local irreducible] OpH OpT LT CT HT Good
theorem arm4_1 {p : Prop} (h : p := by first | exact fm0 | exact fm53 | exact fm56 | exact fm54 | exact fm55 | exact fm43 | exact fm3 | exact fm1 | exact OpH.callF Tryz.func7 rfl rfl rfl (g_awake14) rfl | exact fm15 | exact OpH.callFW Tryz.func14 rfl rfl rfl ((g_Steps _ _ (by first | omega | (simp; omega) | simp) (by first | omega | (simp; omega) | simp))) | exact fm7 | exact fm46 | exact fm58 | exact fm6 | exact OpH.indexS (t := 37) (k := 8) rfl slP rfl rfl (by kernel_rfl) (map_at bd) rfl | exact fm66 | exact lit_37_1 rfl | exact fm4 | exact OpH.callFW Tryz.func20 rfl rfl rfl ((g_law5Of _ (by first | omega | (simp; omega) | simp))) | exact OpH.lenM (t := 53) rfl (.sl _ _) (by kernel_rfl) | exact OpH.lenM (t := 53) rfl (.row _ _ _ _) (by kernel_rfl) | exact OpH.lenM (t := 53) rfl (.full _ _) (by kernel_rfl) | exact OpH.len (t := 53) rfl slP (by kernel_rfl) | exact OpH.lenNil (t := 53) rfl (by kernel_rfl) | exact OpH.indexS (t := 53) (k := 6) rfl slP rfl rfl (by kernel_rfl) (map_at bd) rfl | exact fm64 | exact OpH.bin rfl rfl (pb_of (pb_agg eqg_62 (neq_62 _ _ _ _ _ _ _ _ _ _ _ _)) (nsame_f (by first | rfl | assumption))) | exact OpH.bin rfl rfl (pb_of (pb_agg eqg_62 (neq_62 _ _ _ _ _ _ _ _ _ _ _ _)) (nsame_t (by assumption))) | exact OpH.bin rfl rfl (pb_agg eqg_62 (neq_62 _ _ _ _ _ _ _ _ _ _ _ _)) | fail) : p := h
theorem stpLawPTells_1 {G G' : Prop} (h' : G') (h : Hidd G' → G := by (first | (intro h; (first | refine CT.seqD (id := 10) 7 (by kernel_rfl) (by kernel_rfl) ?_ | refine CT.seqD (id := 29) 8 (by kernel_rfl) (by kernel_rfl) ?_ | refine CT.draw (id := 10) 7 (by kernel_rfl) (by kernel_rfl) ?_ | refine CT.draw (id := 29) 8 (by kernel_rfl) (by kernel_rfl) ?_ | (refine LT.consT ?_; (first | refine T.box (e := 25) (cs := [.val _, .val _]) rfl rfl (by decide) rfl rfl ?_ | refine T.callRow Tryz.func14 rfl rfl rfl ((g_Steps _ _ (by first | omega | (simp; omega) | simp) (by first | omega | (simp; omega) | simp))) (by decide) rfl ?_ | refine T.alloc (e := 50) (z := .agg #[.int .i64 0, .bool false, .int .u64 0, .int .u64 0, .int .u64 0, .int .u64 0, .int .i64 0, .int .i64 0]) (cs := [.val (.int .i64 0), .val (.bool false), .val (.int .u64 0), .val (.int .u64 0), .val (.int .u64 0), .val (.int .u64 0), .val (.int .i64 0), .val (.int .i64 0)]) (by kernel_rfl) rfl (by decide) rfl rfl ?_ | refine T.store (t := 50) rfl rfl rfl (by kernel_rfl) (by kernel_rfl) (Nat.le_of_ble_eq_true (by kernel_rfl)) rfl rfl ?_ | refine T.callRow Tryz.func20 rfl rfl rfl ((g_law5Of _ (by first | omega | (simp; omega) | simp))) (by decide) rfl ?_)) | ((first | apply LT.cons1 | (apply LT.guard1; rfl; rfl; rfl; decide) | apply HT.cons1 | (apply HT.guard1; rfl; rfl; rfl)); exact arm4_1; (try decide))); exact h.1) | fail)) : G := h ⟨h'⟩
set_option maxRecDepth 100000 in
set_option maxHeartbeats 8000000 in
theorem g_PlanTells (order mode n : Int) (old new : List Rte) (a : A2) (ha : a.ok) (ho : ∀ r ∈ old, r.p.a.ok) (hn : ∀ r ∈ new, r.p.a.ok) (hl1 : old.length ≤ 9223372036854775807) (hl2 : new.length ≤ 9223372036854775807) :
    Good Tryz.prog 4 [.val (.int .i64 order), .val (.int .i64 mode), .val (.int .i64 n), .sl 4 (old.map encR), .sl 4 (new.map encR), .val (.agg #[.int .u64 a.x, .int .u64 a.y])] (.val (.bool true)) := by
  have gW := g_awake14
  refine Good.of_body (T := [(0, _), (1, _), (2, _), (3, _), (4, _), (5, _)]) Tryz.func4 rfl rfl rfl ?_
  intro K0 w0 hno
  by_cases hT : TableR old ∧ old.length ≤ 24
  · have gT := g_law9Table old true (by simp [hT]) ho hl1
    by_cases hU : TableR new ∧ new.length ≤ 24
    · have gU := g_law9Table new true (by simp [hU]) hn hl2
      by_cases h1 : old.length ≤ 10
      · by_cases h2 : new.length ≤ 10
        · by_cases h20 : n ≤ 20
          · have gOr := g_Order order
            cases hor : ordPl order with
            | false =>
              rw [hor] at gOr
              repeat' (first | ((first | apply LT.cons1 | (apply LT.guard1; rfl; rfl; rfl; decide) | apply HT.cons1 | (apply HT.guard1; rfl; rfl; rfl)); (first | exact OpH.callF Tryz.func6 rfl rfl rfl gT rfl | exact OpH.callF Tryz.func6 rfl rfl rfl gU rfl | exact OpH.callF Tryz.func12 rfl rfl rfl gOr rfl | exact OpH.callF Tryz.func7 rfl rfl rfl gW rfl); (try decide)) | refine stpLawPTells_1 ?_ | refine stp ?_ | (refine stq ?_ ?_ <;> intro _))
              refine ⟨by first | exact .inl rfl | exact .inr rfl, _, (.cons (.tmp 12 (A := .val _) rfl (fun _ h => by cases h)) .nil), ?_, rfl⟩
              rfl
            | true =>
              rw [hor] at gOr
              by_cases hbad : order = 1 ∧ mode = 2
              · obtain ⟨hb1, hb2⟩ := hbad
                repeat' (first | ((first | apply LT.cons1 | (apply LT.guard1; rfl; rfl; rfl; decide) | apply HT.cons1 | (apply HT.guard1; rfl; rfl; rfl)); (first | exact OpH.callF Tryz.func6 rfl rfl rfl gT rfl | exact OpH.callF Tryz.func6 rfl rfl rfl gU rfl | exact OpH.callF Tryz.func12 rfl rfl rfl gOr rfl | exact OpH.callF Tryz.func7 rfl rfl rfl gW rfl); (try decide)) | refine stpLawPTells_1 ?_ | refine stp ?_ | (refine stq ?_ ?_ <;> intro _))
                refine ⟨by first | exact .inl rfl | exact .inr rfl, _, (.cons (.tmp 12 (A := .val _) rfl (fun _ h => by cases h)) .nil), ?_, rfl⟩
                rfl
              repeat' (first | refine CT.seqR (id := 0) ?_ | refine CT.seqR (id := 2) ?_ | refine CT.seqR (id := 3) ?_ | refine CT.seqR (id := 4) ?_ | refine CT.seqR (id := 5) ?_ | refine CT.seqR (id := 6) ?_ | refine CT.seqR (id := 7) ?_ | refine CT.seqR (id := 8) ?_ | refine CT.seqR (id := 9) ?_ | refine CT.seqR (id := 11) ?_ | refine CT.seqR (id := 12) ?_ | refine CT.seqR (id := 13) ?_ | refine CT.seqR (id := 14) ?_ | refine CT.seqR (id := 15) ?_ | refine CT.seqR (id := 16) ?_ | refine CT.seqR (id := 17) ?_ | refine CT.seqR (id := 18) ?_ | refine CT.seqR (id := 19) ?_ | refine CT.seqR (id := 20) ?_ | refine CT.seqR (id := 21) ?_ | refine CT.seqR (id := 22) ?_ | refine CT.seqR (id := 23) ?_ | refine CT.seqR (id := 24) ?_ | refine CT.seqR (id := 25) ?_ | refine CT.seqR (id := 26) ?_ | refine CT.seqR (id := 27) ?_ | refine CT.seqR (id := 28) ?_ | refine CT.seqR (id := 30) ?_ | refine CT.seqR (id := 31) ?_ | refine CT.seqR (id := 32) ?_ | refine CT.seqD (id := 10) 7 (by kernel_rfl) (by kernel_rfl) ?_ | refine CT.seqD (id := 29) 8 (by kernel_rfl) (by kernel_rfl) ?_ | refine CT.draw (id := 10) 7 (by kernel_rfl) (by kernel_rfl) ?_ | refine CT.draw (id := 29) 8 (by kernel_rfl) (by kernel_rfl) ?_ | refine CT.region (id := 0) ?_ | refine CT.region (id := 2) ?_ | refine CT.region (id := 3) ?_ | refine CT.region (id := 4) ?_ | refine CT.region (id := 5) ?_ | refine CT.region (id := 6) ?_ | refine CT.region (id := 7) ?_ | refine CT.region (id := 8) ?_ | refine CT.region (id := 9) ?_ | refine CT.region (id := 11) ?_ | refine CT.region (id := 12) ?_ | refine CT.region (id := 13) ?_ | refine CT.region (id := 14) ?_ | refine CT.region (id := 15) ?_ | refine CT.region (id := 16) ?_ | refine CT.region (id := 17) ?_ | refine CT.region (id := 18) ?_ | refine CT.region (id := 19) ?_ | refine CT.region (id := 20) ?_ | refine CT.region (id := 21) ?_ | refine CT.region (id := 22) ?_ | refine CT.region (id := 23) ?_ | refine CT.region (id := 24) ?_ | refine CT.region (id := 25) ?_ | refine CT.region (id := 26) ?_ | refine CT.region (id := 27) ?_ | refine CT.region (id := 28) ?_ | refine CT.region (id := 30) ?_ | refine CT.region (id := 31) ?_ | refine CT.region (id := 32) ?_ | refine CT.seq1 ?_ | refine CT.block ?_ | refine CT.condT rfl ?_ | refine CT.condF rfl ?_ | refine CT.skip ?_ | refine CT.exit ?_ | refine CT.ret ?_ | (refine LT.consT ?_; (first | refine T.box (e := 25) (cs := [.val _, .val _]) rfl rfl (by decide) rfl rfl ?_ | refine T.callRow Tryz.func14 rfl rfl rfl ((g_Steps _ _ (by first | omega | (simp; omega) | simp) (by first | omega | (simp; omega) | simp))) (by decide) rfl ?_ | refine T.alloc (e := 50) (z := .agg #[.int .i64 0, .bool false, .int .u64 0, .int .u64 0, .int .u64 0, .int .u64 0, .int .i64 0, .int .i64 0]) (cs := [.val (.int .i64 0), .val (.bool false), .val (.int .u64 0), .val (.int .u64 0), .val (.int .u64 0), .val (.int .u64 0), .val (.int .i64 0), .val (.int .i64 0)]) (by kernel_rfl) rfl (by decide) rfl rfl ?_ | refine T.store (t := 50) rfl rfl rfl (by kernel_rfl) (by kernel_rfl) (Nat.le_of_ble_eq_true (by kernel_rfl)) rfl rfl ?_ | refine T.callRow Tryz.func20 rfl rfl rfl ((g_law5Of _ (by first | omega | (simp; omega) | simp))) (by decide) rfl ?_)) | ((first | apply LT.cons1 | (apply LT.guard1; rfl; rfl; rfl; decide) | apply HT.cons1 | (apply HT.guard1; rfl; rfl; rfl)); exact arm4_1; (try decide)) | refine LT.nil ?_ | refine HT.nil1 ?_ | refine LT.skip1 rfl rfl rfl (by decide) (by decide) ?_ | refine LT.skip2 rfl rfl (by decide) (by decide) ?_ | refine HT.skip1 rfl rfl rfl ?_ | refine HT.skip2 rfl rfl ?_ | (refine stq ?_ ?_ <;> intro _))
              refine CT.cut ⟨[(0, .val (.int .i64 order)), (1, .val (.int .i64 mode)), (2, .val (.int .i64 n)), (3, .sl 4 (old.map encR)), (4, .sl 4 (new.map encR)), (11, .ptr 11 0), (62, .val (.bool false))], [(11, [.val (.int .u64 a.x), .val (.int .u64 a.y)])], []⟩ ?_ ?_
              · by_cases hb1 : order = 1
                · have hb2 : ¬ mode = 2 := fun q => hbad ⟨hb1, q⟩
                  repeat' (first | ((first | apply LT.cons1 | (apply LT.guard1; rfl; rfl; rfl; decide) | apply HT.cons1 | (apply HT.guard1; rfl; rfl; rfl)); (first | exact OpH.callF Tryz.func6 rfl rfl rfl gT rfl | exact OpH.callF Tryz.func6 rfl rfl rfl gU rfl | exact OpH.callF Tryz.func12 rfl rfl rfl gOr rfl); (try decide)) | refine stpLawPTells_1 ?_ | refine stp ?_ | (refine stq ?_ ?_ <;> intro _))
                  exact subT
                · repeat' (first | ((first | apply LT.cons1 | (apply LT.guard1; rfl; rfl; rfl; decide) | apply HT.cons1 | (apply HT.guard1; rfl; rfl; rfl)); (first | exact OpH.callF Tryz.func6 rfl rfl rfl gT rfl | exact OpH.callF Tryz.func6 rfl rfl rfl gU rfl | exact OpH.callF Tryz.func12 rfl rfl rfl gOr rfl); (try decide)) | refine stpLawPTells_1 ?_ | refine stp ?_ | (refine stq ?_ ?_ <;> intro _))
                  exact subT
              have gB := g_BuildX old hT.1 (by omega) mode
              have gC := g_BuildX new hU.1 (by omega) mode
              obtain ⟨o1, s1, l1⟩ := buildX_facts hT.1 mode
              obtain ⟨o2, s2, l2⟩ := buildX_facts hU.1 mode
              have r1 : ∀ e ∈ buildX old mode, eRight e = true ∧ (order = 1 → IsPfx e) := fun e he => ⟨(buildX_right hT.1 mode e he).1, fun q => (buildX_right hT.1 mode e he).2 fun q2 => hbad ⟨q, q2⟩⟩
              have r2 : ∀ e ∈ buildX new mode, eRight e = true ∧ (order = 1 → IsPfx e) := fun e he => ⟨(buildX_right hU.1 mode e he).1, fun q => (buildX_right hU.1 mode e he).2 fun q2 => hbad ⟨q, q2⟩⟩
              have t1 := buildX_tell hT.1 ha mode
              have t2 := buildX_tell hU.1 ha mode
              have gR1 := g_ribTell old a hT.1 ha (by omega)
              have gR2 := g_ribTell new a hU.1 ha (by omega)
              generalize buildX old mode = xs at gB o1 s1 l1 r1 t1
              generalize buildX new mode = ys at gC o2 s2 l2 r2 t2
              generalize tellR old a = u1 at gR1 t1
              generalize tellR new a = u2 at gR2 t2
              have gL := g_laid order n xs (by omega) (by omega)
              obtain ⟨z1, z2⟩ := laid_zero' hor (by omega) r1 n.toNat
              by_cases hroom : xs.length ≤ n.toNat
              · obtain ⟨t, a1, a2, a3, a4⟩ := z1 hroom
                rw [a1] at gL
                have gL : Good Tryz.prog 9 [.val (.int .i64 order), .val (.int .i64 n), .sl 6 (xs.map encE)] (.tup [.sl 7 (t.map encS), .val (.bool true)]) := gL
                have gS := g_Steps xs ys (by omega) (by omega)
                have hsl := steps_length xs ys
                have gAll := g_All order t (stepsOf xs ys) (by omega) (by omega)
                have hal := allPl_len order (stepsOf xs ys) t
                have hp := plan_tells hor s1 s2 ha o1 o2 r1 r2 a2 a3
                clear z1 z2 a1 s1 r1 r2 s2
                generalize stepsOf xs ys = ss at gS gAll hal hsl hp
                generalize allPl order t ss = r at gAll hal hp
                rcases hp with rfl | ⟨W, rfl, w1, w2, w3⟩
                · have gAll : Good Tryz.prog 13 [.val (.int .i64 order), .sl 7 (t.map encS), .sl 7 (ss.map encD)] (.tup [.sl 8 (([] : List Wrt).map encX), .val (.int .i64 3)]) := gAll
                  repeat' (first | (refine LT.consT ?_; refine T.callRow Tryz.func14 rfl rfl rfl gS (by decide) rfl ?_) | ((first | apply LT.cons1 | (apply LT.guard1; rfl; rfl; rfl; decide) | apply HT.cons1 | (apply HT.guard1; rfl; rfl; rfl)); (first | exact OpH.callF Tryz.func8 rfl rfl rfl gB rfl | exact OpH.callF Tryz.func8 rfl rfl rfl gC rfl | exact OpH.callF Tryz.func9 rfl rfl rfl gL rfl | exact OpH.callF Tryz.func13 rfl rfl rfl gAll rfl | exact OpH.callF Tryz.func7 rfl rfl rfl gW rfl); (try decide)) | refine stpLawPTells_1 ?_ | refine stp ?_ | (refine stq ?_ ?_ <;> intro _))
                  refine ⟨by first | exact .inl rfl | exact .inr rfl, _, (.cons (.tmp 12 (A := .val _) rfl (fun _ h => by cases h)) .nil), ?_, rfl⟩
                  rfl
                have gAll : Good Tryz.prog 13 [.val (.int .i64 order), .sl 7 (t.map encS), .sl 7 (ss.map encD)] (.tup [.sl 8 (W.map encX), .val (.int .i64 0)]) := gAll
                have hwl : W.length ≤ 1000 := by
                  have hal : W.length ≤ ss.length * (t.length + 3) := hal
                  have : ss.length * (t.length + 3) ≤ 20 * 23 := Nat.mul_le_mul (by omega) (by omega)
                  omega
                clear hal
                repeat' (first | (refine LT.consT ?_; refine T.callRow Tryz.func14 rfl rfl rfl gS (by decide) rfl ?_) | ((first | apply LT.cons1 | (apply LT.guard1; rfl; rfl; rfl; decide) | apply HT.cons1 | (apply HT.guard1; rfl; rfl; rfl)); (first | exact OpH.callF Tryz.func8 rfl rfl rfl gB rfl | exact OpH.callF Tryz.func8 rfl rfl rfl gC rfl | exact OpH.callF Tryz.func9 rfl rfl rfl gL rfl | exact OpH.callF Tryz.func13 rfl rfl rfl gAll rfl | exact OpH.callF Tryz.func11 rfl rfl rfl gR1 rfl | exact OpH.callF Tryz.func11 rfl rfl rfl gR2 rfl); (try decide)) | refine CT.seqR (id := 0) ?_ | refine CT.seqR (id := 1) ?_ | refine CT.seqR (id := 2) ?_ | refine CT.seqR (id := 3) ?_ | refine CT.seqR (id := 4) ?_ | refine CT.seqR (id := 5) ?_ | refine CT.seqR (id := 6) ?_ | refine CT.seqR (id := 7) ?_ | refine CT.seqR (id := 8) ?_ | refine CT.seqR (id := 9) ?_ | refine CT.seqR (id := 12) ?_ | refine CT.seqR (id := 13) ?_ | refine CT.seqR (id := 14) ?_ | refine CT.seqR (id := 15) ?_ | refine CT.seqR (id := 16) ?_ | refine CT.seqR (id := 17) ?_ | refine CT.seqR (id := 18) ?_ | refine CT.seqR (id := 19) ?_ | refine CT.seqR (id := 20) ?_ | refine CT.seqR (id := 21) ?_ | refine CT.seqR (id := 22) ?_ | refine CT.seqR (id := 23) ?_ | refine CT.seqR (id := 24) ?_ | refine CT.seqR (id := 25) ?_ | refine CT.seqR (id := 26) ?_ | refine CT.seqR (id := 27) ?_ | refine CT.seqR (id := 28) ?_ | refine CT.seqR (id := 30) ?_ | refine CT.seqR (id := 31) ?_ | refine CT.seqR (id := 32) ?_ | refine CT.seqD (id := 10) 7 (by kernel_rfl) (by kernel_rfl) ?_ | refine CT.seqD (id := 29) 8 (by kernel_rfl) (by kernel_rfl) ?_ | refine CT.draw (id := 10) 7 (by kernel_rfl) (by kernel_rfl) ?_ | refine CT.draw (id := 29) 8 (by kernel_rfl) (by kernel_rfl) ?_ | refine CT.region (id := 0) ?_ | refine CT.region (id := 1) ?_ | refine CT.region (id := 2) ?_ | refine CT.region (id := 3) ?_ | refine CT.region (id := 4) ?_ | refine CT.region (id := 5) ?_ | refine CT.region (id := 6) ?_ | refine CT.region (id := 7) ?_ | refine CT.region (id := 8) ?_ | refine CT.region (id := 9) ?_ | refine CT.region (id := 12) ?_ | refine CT.region (id := 13) ?_ | refine CT.region (id := 14) ?_ | refine CT.region (id := 15) ?_ | refine CT.region (id := 16) ?_ | refine CT.region (id := 17) ?_ | refine CT.region (id := 18) ?_ | refine CT.region (id := 19) ?_ | refine CT.region (id := 20) ?_ | refine CT.region (id := 21) ?_ | refine CT.region (id := 22) ?_ | refine CT.region (id := 23) ?_ | refine CT.region (id := 24) ?_ | refine CT.region (id := 25) ?_ | refine CT.region (id := 26) ?_ | refine CT.region (id := 27) ?_ | refine CT.region (id := 28) ?_ | refine CT.region (id := 30) ?_ | refine CT.region (id := 31) ?_ | refine CT.region (id := 32) ?_ | refine CT.seq1 ?_ | refine CT.block ?_ | refine CT.condT rfl ?_ | refine CT.condF rfl ?_ | refine CT.skip ?_ | refine CT.exit ?_ | refine CT.ret ?_ | (refine LT.consT ?_; (first | refine T.box (e := 25) (cs := [.val _, .val _]) rfl rfl (by decide) rfl rfl ?_ | refine T.callRow Tryz.func14 rfl rfl rfl ((g_Steps _ _ (by first | omega | (simp; omega) | simp) (by first | omega | (simp; omega) | simp))) (by decide) rfl ?_ | refine T.alloc (e := 50) (z := .agg #[.int .i64 0, .bool false, .int .u64 0, .int .u64 0, .int .u64 0, .int .u64 0, .int .i64 0, .int .i64 0]) (cs := [.val (.int .i64 0), .val (.bool false), .val (.int .u64 0), .val (.int .u64 0), .val (.int .u64 0), .val (.int .u64 0), .val (.int .i64 0), .val (.int .i64 0)]) (by kernel_rfl) rfl (by decide) rfl rfl ?_ | refine T.store (t := 50) rfl rfl rfl (by kernel_rfl) (by kernel_rfl) (Nat.le_of_ble_eq_true (by kernel_rfl)) rfl rfl ?_ | refine T.callRow Tryz.func20 rfl rfl rfl ((g_law5Of _ (by first | omega | (simp; omega) | simp))) (by decide) rfl ?_)) | ((first | apply LT.cons1 | (apply LT.guard1; rfl; rfl; rfl; decide) | apply HT.cons1 | (apply HT.guard1; rfl; rfl; rfl)); exact arm4_1; (try decide)) | refine LT.nil ?_ | refine HT.nil1 ?_ | refine LT.skip1 rfl rfl rfl (by decide) (by decide) ?_ | refine LT.skip2 rfl rfl (by decide) (by decide) ?_ | refine HT.skip1 rfl rfl rfl ?_ | refine HT.skip2 rfl rfl ?_ | (refine stq ?_ ?_ <;> intro _))
                refine CT.cut ⟨[(0, .val (.int .i64 order)), (11, .ptr 11 0), (14, .sl 6 (ys.map encE)), (15, .sl 7 (t.map encS)), (17, .sl 8 (W.map encX)), (19, .val (.int .i64 u1)), (20, .val (.int .i64 u2)), (112, .val (.bool (decide (mode < 0 ∨ 2 < mode))))], [(11, [.val (.int .u64 a.x), .val (.int .u64 a.y)])], []⟩ ?_ ?_
                · by_cases c1 : mode < 0
                  · rw [decide_eq_true (.inl c1)]
                    repeat' (first | refine stpLawPTells_1 ?_ | refine stp ?_ | (refine stq ?_ ?_ <;> intro _))
                    exact subT
                  · by_cases c2 : 2 < mode
                    · rw [decide_eq_true (.inr c2)]
                      repeat' (first | refine stpLawPTells_1 ?_ | refine stp ?_ | (refine stq ?_ ?_ <;> intro _))
                      exact subT
                    · rw [decide_eq_false (fun q => by omega)]
                      repeat' (first | refine stpLawPTells_1 ?_ | refine stp ?_ | (refine stq ?_ ?_ <;> intro _))
                      exact subT
                refine CT.cut ⟨[(0, .val (.int .i64 order)), (11, .ptr 11 0), (14, .sl 6 (ys.map encE)), (15, .sl 7 (t.map encS)), (17, .sl 8 (W.map encX)), (19, .val (.int .i64 (tell xs a))), (20, .val (.int .i64 (tell ys a)))], [(11, [.val (.int .u64 a.x), .val (.int .u64 a.y)])], []⟩ ?_ ?_
                · by_cases c : mode < 0 ∨ 2 < mode
                  · rw [if_pos c] at t1 t2
                    rw [t1, t2, decide_eq_true c]
                    repeat' (first | refine stpLawPTells_1 ?_ | refine stp ?_ | (refine stq ?_ ?_ <;> intro _))
                    exact subT
                  · rw [if_neg c] at t1 t2
                    rw [t1, t2, decide_eq_false c]
                    repeat' (first | refine stpLawPTells_1 ?_ | refine stp ?_ | (refine stq ?_ ?_ <;> intro _))
                    exact subT
                clear t1 t2
                generalize tell xs a = v1 at w1
                generalize tell ys a = v2 at w1 w3
                repeat' (first | refine stpLawPTells_1 ?_ | refine stp ?_ | (refine stq ?_ ?_ <;> intro _))
                refine CT.loopX (fun q : Nat × List Slt => (⟨[(0, .val (.int .i64 order)), (11, .ptr 11 0), (14, .sl 6 (ys.map encE)), (19, .val (.int .i64 v1)), (20, .val (.int .i64 v2)), (21, .sl 7 (q.2.map encS)), (114, .sl 8 (W.map encX)), (115, .val (.int .i64 W.length)), (116, .val (.int .i64 q.1))], [(11, [.val (.int .u64 a.x), .val (.int .u64 a.y)])], []⟩ : St))
                  (fun q => q.1 ≤ W.length ∧ q.2 = applyW t (W.take q.1)) (fun q => W.length - q.1) (0, t) ?_ ⟨Nat.zero_le _, by rw [List.take_zero]; rfl⟩ ?_
                · exact subT
                rintro ⟨k, now⟩ ⟨hk, hx⟩
                dsimp only at hk hx ⊢
                have hxl : now.length = t.length := by rw [hx, applyW_len]
                by_cases hlt : k < W.length
                · have hst := applyW_next (l := t) hlt
                  rw [← hx] at hst
                  obtain ⟨w, hw⟩ : ∃ w, W[k] = w := ⟨_, rfl⟩
                  rw [hw] at hst
                  have hat : (W.map encX)[k]? = some (encX w) := by rw [List.getElem?_map, List.getElem?_eq_getElem hlt, hw]; rfl
                  have gA := g_Apply now [w] (by omega) (by simp)
                  rw [← hst] at gA
                  obtain ⟨q1, q2⟩ := w1 (k + 1) (by omega)
                  have hl3 : (applyW t (W.take (k + 1))).length ≤ 60000 := by rw [applyW_len]; omega
                  have gT2 := g_Tell _ a (by omega : (applyW t (W.take (k + 1))).length ≤ 65536)
                  have gK := g_plnKept order _ hl3
                  rw [q1] at gK
                  obtain ⟨nx, hnx⟩ : ∃ nx, applyW t (W.take (k + 1)) = nx := ⟨_, rfl⟩
                  rw [hnx] at gA gT2 gK q2
                  generalize tellS nx a = v at gT2 q2
                  by_cases hv : v = v1
                  · repeat' (first | ((first | apply LT.cons1 | (apply LT.guard1; rfl; rfl; rfl; decide) | apply HT.cons1 | (apply HT.guard1; rfl; rfl; rfl)); (first | exact OpH.indexS (t := 37) (k := 8) (j := k) rfl slP rfl rfl (by kernel_rfl) hat rfl | exact OpH.callF Tryz.func15 rfl rfl rfl gA rfl | exact OpH.callF Tryz.func10 rfl rfl rfl gT2 rfl | exact OpH.callF Tryz.func16 rfl rfl rfl gK rfl); (try decide)) | refine stpLawPTells_1 ?_ | refine stp ?_ | (refine stq ?_ ?_ <;> intro _))
                    refine ⟨(k + 1, nx), ⟨by dsimp only; omega, hnx.symm⟩, by dsimp only; omega, ?_⟩
                    exact subT
                  · have hv2 : v = v2 := by rcases q2 with q2 | q2; exact absurd q2 hv; exact q2
                    repeat' (first | ((first | apply LT.cons1 | (apply LT.guard1; rfl; rfl; rfl; decide) | apply HT.cons1 | (apply HT.guard1; rfl; rfl; rfl)); (first | exact OpH.indexS (t := 37) (k := 8) (j := k) rfl slP rfl rfl (by kernel_rfl) hat rfl | exact OpH.callF Tryz.func15 rfl rfl rfl gA rfl | exact OpH.callF Tryz.func10 rfl rfl rfl gT2 rfl | exact OpH.callF Tryz.func16 rfl rfl rfl gK rfl); (try decide)) | refine stpLawPTells_1 ?_ | refine stp ?_ | (refine stq ?_ ?_ <;> intro _))
                    refine ⟨(k + 1, nx), ⟨by dsimp only; omega, hnx.symm⟩, by dsimp only; omega, ?_⟩
                    exact subT
                · obtain rfl : k = W.length := by omega
                  rw [List.take_length] at hx
                  rw [← hx] at w2 w3
                  have hel := w2.length_eq
                  have hoke : ∀ e ∈ entsS now, e.w.ok := fun e he => o2 e (w2.mem_iff.1 he)
                  have gO := Good.asSl (g_law8Of now (by omega))
                  have gE := Good.asSl (g_r8Entries now (by omega))
                  have gS1 := Good.asSl (g_rSort (entsS now) hoke (by omega))
                  have gF := Good.asSl (g_law5Of ys (by omega))
                  have gS2 := Good.asSl (g_rSort ys o2 (by omega))
                  rw [sortE_of_perm w2] at gS1
                  have gT2 := g_Tell now a (by omega)
                  rw [w3] at gT2
                  have hzl : (sortE ys).length ≤ 1000 := by rw [sortE_length]; omega
                  generalize sortE ys = zs at gS1 gS2 hzl
                  clear hx w1 w2 w3 hoke
                  repeat' (first | ((first | apply LT.cons1 | (apply LT.guard1; rfl; rfl; rfl; decide) | apply HT.cons1 | (apply HT.guard1; rfl; rfl; rfl)); (first | exact OpH.callF Tryz.func19 rfl rfl rfl gO rfl | exact OpH.callF Tryz.func18 rfl rfl rfl gE rfl | exact OpH.callF Tryz.func17 rfl rfl rfl gS1 rfl | exact OpH.callF Tryz.func20 rfl rfl rfl gF rfl | exact OpH.callF Tryz.func17 rfl rfl rfl gS2 rfl | exact OpH.callF Tryz.func10 rfl rfl rfl gT2 rfl); (try decide)) | refine stpLawPTells_1 ?_ | refine stp ?_ | (refine stq ?_ ?_ <;> intro _))
                  refine CT.loopX (fun k : Nat => (⟨[(25, .sl 6 (zs.map encE)), (26, .sl 6 (zs.map encE)), (162, .val (.int .i64 zs.length)), (163, .val (.int .i64 k))], [], []⟩ : St))
                    (fun k => k ≤ zs.length) (fun k => zs.length - k) 0 ?_ (by omega) ?_
                  · exact subT
                  rintro k hk2
                  by_cases hlt2 : k < zs.length
                  · have hself : zs[k] = zs[k] := rfl
                    repeat' (first | refine stpLawPTells_1 ?_ | refine stp ?_ | (refine stq ?_ ?_ <;> intro _))
                    refine ⟨k + 1, by omega, by omega, ?_⟩
                    exact subT
                  · obtain rfl : k = zs.length := by omega
                    repeat' (first | ((first | apply LT.cons1 | (apply LT.guard1; rfl; rfl; rfl; decide) | apply HT.cons1 | (apply HT.guard1; rfl; rfl; rfl)); (first | exact OpH.callF Tryz.func7 rfl rfl rfl gW rfl); (try decide)) | refine stpLawPTells_1 ?_ | refine stp ?_ | (refine stq ?_ ?_ <;> intro _))
                    refine ⟨by first | exact .inl rfl | exact .inr rfl, _, (.cons (.tmp 12 (A := .val _) rfl (fun _ h => by cases h)) .nil), ?_, rfl⟩
                    rfl
              · rw [z2 hroom] at gL
                have gL : Good Tryz.prog 9 [.val (.int .i64 order), .val (.int .i64 n), .sl 6 (xs.map encE)] (.tup [.sl 7 (([] : List Slt).map encS), .val (.bool false)]) := gL
                repeat' (first | ((first | apply LT.cons1 | (apply LT.guard1; rfl; rfl; rfl; decide) | apply HT.cons1 | (apply HT.guard1; rfl; rfl; rfl)); (first | exact OpH.callF Tryz.func8 rfl rfl rfl gB rfl | exact OpH.callF Tryz.func8 rfl rfl rfl gC rfl | exact OpH.callF Tryz.func9 rfl rfl rfl gL rfl | exact OpH.callF Tryz.func7 rfl rfl rfl gW rfl); (try decide)) | refine stpLawPTells_1 ?_ | refine stp ?_ | (refine stq ?_ ?_ <;> intro _))
                refine ⟨by first | exact .inl rfl | exact .inr rfl, _, (.cons (.tmp 12 (A := .val _) rfl (fun _ h => by cases h)) .nil), ?_, rfl⟩
                rfl
          · repeat' (first | ((first | apply LT.cons1 | (apply LT.guard1; rfl; rfl; rfl; decide) | apply HT.cons1 | (apply HT.guard1; rfl; rfl; rfl)); (first | exact OpH.callF Tryz.func6 rfl rfl rfl gT rfl | exact OpH.callF Tryz.func6 rfl rfl rfl gU rfl | exact OpH.callF Tryz.func7 rfl rfl rfl gW rfl); (try decide)) | refine stpLawPTells_1 ?_ | refine stp ?_ | (refine stq ?_ ?_ <;> intro _))
            refine ⟨by first | exact .inl rfl | exact .inr rfl, _, (.cons (.tmp 12 (A := .val _) rfl (fun _ h => by cases h)) .nil), ?_, rfl⟩
            rfl
        · repeat' (first | ((first | apply LT.cons1 | (apply LT.guard1; rfl; rfl; rfl; decide) | apply HT.cons1 | (apply HT.guard1; rfl; rfl; rfl)); (first | exact OpH.callF Tryz.func6 rfl rfl rfl gT rfl | exact OpH.callF Tryz.func6 rfl rfl rfl gU rfl | exact OpH.callF Tryz.func7 rfl rfl rfl gW rfl); (try decide)) | refine stpLawPTells_1 ?_ | refine stp ?_ | (refine stq ?_ ?_ <;> intro _))
          refine ⟨by first | exact .inl rfl | exact .inr rfl, _, (.cons (.tmp 12 (A := .val _) rfl (fun _ h => by cases h)) .nil), ?_, rfl⟩
          rfl
      · repeat' (first | ((first | apply LT.cons1 | (apply LT.guard1; rfl; rfl; rfl; decide) | apply HT.cons1 | (apply HT.guard1; rfl; rfl; rfl)); (first | exact OpH.callF Tryz.func6 rfl rfl rfl gT rfl | exact OpH.callF Tryz.func6 rfl rfl rfl gU rfl | exact OpH.callF Tryz.func7 rfl rfl rfl gW rfl); (try decide)) | refine stpLawPTells_1 ?_ | refine stp ?_ | (refine stq ?_ ?_ <;> intro _))
        refine ⟨by first | exact .inl rfl | exact .inr rfl, _, (.cons (.tmp 12 (A := .val _) rfl (fun _ h => by cases h)) .nil), ?_, rfl⟩
        rfl
    · have gU := g_law9Table new false (by simp [hU]) hn hl2
      repeat' (first | ((first | apply LT.cons1 | (apply LT.guard1; rfl; rfl; rfl; decide) | apply HT.cons1 | (apply HT.guard1; rfl; rfl; rfl)); (first | exact OpH.callF Tryz.func6 rfl rfl rfl gT rfl | exact OpH.callF Tryz.func6 rfl rfl rfl gU rfl | exact OpH.callF Tryz.func7 rfl rfl rfl gW rfl); (try decide)) | refine stpLawPTells_1 ?_ | refine stp ?_ | (refine stq ?_ ?_ <;> intro _))
      refine ⟨by first | exact .inl rfl | exact .inr rfl, _, (.cons (.tmp 12 (A := .val _) rfl (fun _ h => by cases h)) .nil), ?_, rfl⟩
      rfl
  · have gT := g_law9Table old false (by simp [hT]) ho hl1
    repeat' (first | ((first | apply LT.cons1 | (apply LT.guard1; rfl; rfl; rfl; decide) | apply HT.cons1 | (apply HT.guard1; rfl; rfl; rfl)); (first | exact OpH.callF Tryz.func6 rfl rfl rfl gT rfl | exact OpH.callF Tryz.func7 rfl rfl rfl gW rfl); (try decide)) | refine stpLawPTells_1 ?_ | refine stp ?_ | (refine stq ?_ ?_ <;> intro _))
    refine ⟨by first | exact .inl rfl | exact .inr rfl, _, (.cons (.tmp 12 (A := .val _) rfl (fun _ h => by cases h)) .nil), ?_, rfl⟩
    rfl
theorem w_PlanTells (order mode n : Int) (A : Option Addr) (c : Nat) (xs : List Rte) (B : Option Addr) (d : Nat) (ys : List Rte) (a : A2) (w : World) (hoo : OkI order) (hom : OkI mode) (hon : OkI n) (hcap : xs.length ≤ c) (hnil : A = none → c = 0) (hr : Reads encR 4 w A xs) (hoks : ∀ x ∈ xs, OkR x) (hcap2 : ys.length ≤ d) (hnil2 : B = none → d = 0) (hr2 : Reads encR 4 w B ys) (hoks2 : ∀ x ∈ ys, OkR x) (hoa : OkA a) :
    Calls Tryz.prog 4 #[.int .i64 order, .int .i64 mode, .int .i64 n, .slice A xs.length c, .slice B ys.length d, .agg #[.int .u64 a.x, .int .u64 a.y]] w fun e w' => e = .returned (.bool true) ∧ Below w.heap.size w w' :=
  (g_PlanTells order mode n xs ys a hoa (fun x hx => (hoks x hx).1.1) (fun x hx => (hoks2 x hx).1.1) hr.1 hr2.1).run (.val (.val (.val (.sl hcap hnil hr lenR oneR (.sl hcap2 hnil2 hr2 lenR oneR (.val .nil))))))
end Go.Proofs.YtjmnnkhdadoehaaGreat
