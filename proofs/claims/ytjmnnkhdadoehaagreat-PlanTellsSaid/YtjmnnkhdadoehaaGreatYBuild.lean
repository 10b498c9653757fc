/- merge.Build. -/
import Derived.Test.YtjmnnkhdadoehaaGreatYMergeA
import Derived.Test.YtjmnnkhdadoehaaGreatYMergeF
namespace Go.Proofs.YtjmnnkhdadoehaaGreat
set_option linter.unusedSimpArgs false
set_option linter.unusedVariables false
open Go Go.RowKit Go.Shelf
theorem Good.toSl {P : Program} {f : FuncId} {As : List AV} {r e k : Nat} {xs : Cells} (hg : Good P f As (.row r e k xs)) : Good P f As (.sl k xs) := by
  intro K w cargs hok hlen hrep
  refine (hg K w cargs hok hlen hrep).mono ?_
  rintro e' w' ⟨c, K', rfl, h1, h2, h3, h4, ρ, h5, _⟩
  exact ⟨c, K', rfl, h1, h2, h3, h4, ρ, h5.2, fun r e k xs h => (by rcases h with h | ⟨_, h, _⟩ <;> cases h), fun r e k xs r' e' k' xs' g h => (by rcases h with h | ⟨_, h, _⟩ <;> cases h)⟩
attribute [local irreducible] OpH OpT LT CT HT Good
theorem ents_take {rs : List Rte} {k : Nat} (h : k < rs.length) : (rs.take (k + 1)).map entR = (rs.take k).map entR ++ [entR rs[k]] := by
  rw [List.take_succ_eq_append_getElem h, List.map_append]; rfl
theorem g_eOfR (r : Rte) (h : Canon r.p) : Good Tryz.prog 30 [.val (.agg #[.int .u64 r.p.a.x, .int .u64 r.p.a.y, .int .i64 r.p.len]), .val (.int .i64 r.act)] (.val (.agg #[.int .u64 (entR r).w.v.x, .int .u64 (entR r).w.v.y, .int .u64 (entR r).w.m.x, .int .u64 (entR r).w.m.y, .int .i64 (entR r).len, .int .i64 (entR r).act])) := by
  have := g_eOfP r.p.a.x r.p.a.y r.p.len r.act
  rw [show pMake ⟨r.p.a.x, r.p.a.y⟩ r.p.len = r.p from cut_canon h] at this
  exact this
theorem arm8_1 {p : Prop} (h : p := by first | exact fm0 | exact fm53 | exact fm56 | exact fm7 | exact fm43 | exact fm6 | exact fm38 | exact fm62 | exact fm32 | exact fm23 | exact fm60 | exact fm33 | exact fm24 | exact fm50 | exact OpH.callF Tryz.func30 rfl rfl rfl (g_eOf _ _ _ _) rfl | exact lit_28_1 rfl | exact fm4 | exact fm1 | exact OpH.callFW Tryz.func35 rfl rfl rfl ((g_Merge _ (by assumption) (by first | omega | (simp; omega) | simp))) | exact OpH.callFW Tryz.func36 rfl rfl rfl ((g_eSort _ (by first | omega | (simp; omega) | simp))) | fail) : p := h
theorem stpBuild_1 {G G' : Prop} (h' : G') (h : Hidd G' → G := by (first | (intro h; (first | (refine LT.consT ?_; (first | refine T.alloc (e := 67) (z := .agg #[.int .u64 0, .int .u64 0, .int .i64 0, .int .i64 0]) (cs := [.val (.int .u64 0), .val (.int .u64 0), .val (.int .i64 0), .val (.int .i64 0)]) (by kernel_rfl) rfl (by decide) rfl rfl ?_ | refine T.store (t := 67) rfl rfl rfl (by kernel_rfl) (by kernel_rfl) (Nat.le_of_ble_eq_true (by kernel_rfl)) rfl rfl ?_ | refine T.appNil (t := 28) (e := 46) (k := 6) (bytes := 48) rfl rfl srP (by kernel_rfl) szP (by decide) rfl ?_ | refine T.app (t := 28) (e := 46) (k := 6) (bytes := 48) rfl rfl srP (by kernel_rfl) szP (by decide) rfl rfl ?_ | refine T.callRow Tryz.func35 rfl rfl rfl ((g_Merge _ (by assumption) (by first | omega | (simp; omega) | simp))) (by decide) rfl ?_ | refine T.callRow Tryz.func36 rfl rfl rfl ((g_eSort _ (by first | omega | (simp; omega) | simp))) (by decide) rfl ?_)) | (apply LT.cons1; exact arm8_1; (try decide))); exact h.1) | fail)) : G := h ⟨h'⟩
set_option maxRecDepth 100000 in
set_option maxHeartbeats 2000000 in
theorem g_Build0 (rs : List Rte) (ht : TableR rs) (hl : rs.length ≤ 1000) : Good Tryz.prog 8 [.sl 4 (rs.map encR), .val (.int .i64 0)] (.row 35 46 6 ((buildE rs 0).map encE)) := by
  have gS := g_eSort (rs.map entR) (by rw [List.length_map]; omega)
  have gM := g_Mode 0
  rw [show decide ((0 : Int) ≤ 0 ∧ (0 : Int) ≤ 2) = true from rfl] at gM
  rw [show buildE rs 0 = sortE (rs.map entR) by unfold buildE; rw [if_pos rfl]]
  refine Good.of_body (T := [(0, _), (1, _)]) Tryz.func8 rfl rfl rfl ?_
  intro K0 w0 hno
  repeat' (first | (apply LT.cons1; (first | exact OpH.callF Tryz.func33 rfl rfl rfl gM rfl); (try decide)) | refine stpBuild_1 ?_ | refine stp ?_ | (refine stq ?_ ?_ <;> intro _))
  refine CT.loopX (fun k : Nat => (⟨[(1, .val (.int .i64 0)), (5, .row 5 46 6 (((rs.take k).map entR).map encE)), (15, .sl 4 (rs.map encR)), (16, .val (.int .i64 rs.length)), (17, .val (.int .i64 k))], [], []⟩ : St))
    (fun k => k ≤ rs.length) (fun k => rs.length - k) 0 ?_ (by omega) ?_
  · rw [List.take_zero, List.map_nil]
    exact subT
  rintro k hk
  by_cases hlt : k < rs.length
  · have hkl : ((rs.take k).map entR).length = k := by rw [List.length_map, List.length_take]; omega
    have gO := g_eOfR rs[k] (ht.canon _ (List.getElem_mem hlt))
    obtain ⟨e, he⟩ : ∃ e, entR rs[k] = e := ⟨_, rfl⟩
    rw [he] at gO
    repeat' (first | (apply LT.cons1; (first | exact OpH.callF Tryz.func30 rfl rfl rfl gO rfl); (try decide)) | refine stpBuild_1 ?_ | refine stp ?_ | (refine stq ?_ ?_ <;> intro _))
    refine ⟨k + 1, by omega, by omega, ?_⟩
    rw [ents_take hlt, he]
    exact subT
  · obtain rfl : k = rs.length := by omega
    rw [List.take_length]
    repeat' (first | (refine LT.consT ?_; refine T.callRow Tryz.func36 rfl rfl rfl gS (by decide) rfl ?_) | refine stpBuild_1 ?_ | refine stp ?_ | (refine stq ?_ ?_ <;> intro _))
    refine ⟨by first | exact .inl rfl | exact .inr rfl, _, (.cons (.tmp 4 (A := .row _ _ _ _) rfl (fun _ h => by cases h)) .nil), ?_, rfl⟩
    rfl
set_option maxRecDepth 100000 in
set_option maxHeartbeats 2000000 in
theorem g_Build1 (rs : List Rte) (ht : TableR rs) (hl : rs.length ≤ 1000) : Good Tryz.prog 8 [.sl 4 (rs.map encR), .val (.int .i64 1)] (.row 35 46 6 ((buildE rs 1).map encE)) := by
  have hkl := keepR_length ht
  have hkc := keepR_canon ht
  have gK := g_Keep rs ht (by omega)
  have gM := g_Mode 1
  rw [show decide ((0 : Int) ≤ 1 ∧ (1 : Int) ≤ 2) = true from rfl] at gM
  rw [show buildE rs 1 = sortE ((keepR rs).map entR) by unfold buildE; rw [if_neg (by decide), if_pos rfl]]
  generalize keepR rs = ks at hkl hkc gK ⊢
  have gS := g_eSort (ks.map entR) (by rw [List.length_map]; omega)
  refine Good.of_body (T := [(0, _), (1, _)]) Tryz.func8 rfl rfl rfl ?_
  intro K0 w0 hno
  repeat' (first | (refine LT.consT ?_; refine T.callRow Tryz.func34 rfl rfl rfl gK (by decide) rfl ?_) | (apply LT.cons1; (first | exact OpH.callF Tryz.func33 rfl rfl rfl gM rfl); (try decide)) | refine stpBuild_1 ?_ | refine stp ?_ | (refine stq ?_ ?_ <;> intro _))
  refine CT.loopX (fun k : Nat => (⟨[(1, .val (.int .i64 1)), (5, .row 5 46 6 (((ks.take k).map entR).map encE)), (15, .row 15 67 4 (ks.map encR)), (16, .val (.int .i64 ks.length)), (17, .val (.int .i64 k))], [], []⟩ : St))
    (fun k => k ≤ ks.length) (fun k => ks.length - k) 0 ?_ (by omega) ?_
  · rw [List.take_zero, List.map_nil]
    exact subT
  rintro k hk
  by_cases hlt : k < ks.length
  · have hkl2 : ((ks.take k).map entR).length = k := by rw [List.length_map, List.length_take]; omega
    have gO := g_eOfR ks[k] (hkc _ (List.getElem_mem hlt))
    obtain ⟨e, he⟩ : ∃ e, entR ks[k] = e := ⟨_, rfl⟩
    rw [he] at gO
    repeat' (first | (apply LT.cons1; (first | exact OpH.callF Tryz.func30 rfl rfl rfl gO rfl); (try decide)) | refine stpBuild_1 ?_ | refine stp ?_ | (refine stq ?_ ?_ <;> intro _))
    refine ⟨k + 1, by omega, by omega, ?_⟩
    rw [ents_take hlt, he]
    exact subT
  · obtain rfl : k = ks.length := by omega
    rw [List.take_length]
    repeat' (first | (refine LT.consT ?_; refine T.callRow Tryz.func36 rfl rfl rfl gS (by decide) rfl ?_) | refine stpBuild_1 ?_ | refine stp ?_ | (refine stq ?_ ?_ <;> intro _))
    refine ⟨by first | exact .inl rfl | exact .inr rfl, _, (.cons (.tmp 4 (A := .row _ _ _ _) rfl (fun _ h => by cases h)) .nil), ?_, rfl⟩
    rfl
set_option maxRecDepth 100000 in
set_option maxHeartbeats 2000000 in
theorem g_Build2 (rs : List Rte) (ht : TableR rs) (hl : rs.length ≤ 1000) : Good Tryz.prog 8 [.sl 4 (rs.map encR), .val (.int .i64 2)] (.row 33 46 6 ((buildE rs 2).map encE)) := by
  have hkl := keepR_length ht
  have hkc := keepR_canon ht
  have gK := g_Keep rs ht (by omega)
  have gM := g_Mode 2
  rw [show decide ((0 : Int) ≤ 2 ∧ (2 : Int) ≤ 2) = true from rfl] at gM
  rw [show buildE rs 2 = mergeE ((keepR rs).map entR) by unfold buildE; rw [if_neg (by decide), if_neg (by decide)]]
  generalize keepR rs = ks at hkl hkc gK ⊢
  have gS := g_Merge (ks.map entR) (ents_ok hkc) (by rw [List.length_map]; omega)
  refine Good.of_body (T := [(0, _), (1, _)]) Tryz.func8 rfl rfl rfl ?_
  intro K0 w0 hno
  repeat' (first | (refine LT.consT ?_; refine T.callRow Tryz.func34 rfl rfl rfl gK (by decide) rfl ?_) | (apply LT.cons1; (first | exact OpH.callF Tryz.func33 rfl rfl rfl gM rfl); (try decide)) | refine stpBuild_1 ?_ | refine stp ?_ | (refine stq ?_ ?_ <;> intro _))
  refine CT.loopX (fun k : Nat => (⟨[(1, .val (.int .i64 2)), (5, .row 5 46 6 (((ks.take k).map entR).map encE)), (15, .row 15 67 4 (ks.map encR)), (16, .val (.int .i64 ks.length)), (17, .val (.int .i64 k))], [], []⟩ : St))
    (fun k => k ≤ ks.length) (fun k => ks.length - k) 0 ?_ (by omega) ?_
  · rw [List.take_zero, List.map_nil]
    exact subT
  rintro k hk
  by_cases hlt : k < ks.length
  · have hkl2 : ((ks.take k).map entR).length = k := by rw [List.length_map, List.length_take]; omega
    have gO := g_eOfR ks[k] (hkc _ (List.getElem_mem hlt))
    obtain ⟨e, he⟩ : ∃ e, entR ks[k] = e := ⟨_, rfl⟩
    rw [he] at gO
    repeat' (first | (apply LT.cons1; (first | exact OpH.callF Tryz.func30 rfl rfl rfl gO rfl); (try decide)) | refine stpBuild_1 ?_ | refine stp ?_ | (refine stq ?_ ?_ <;> intro _))
    refine ⟨k + 1, by omega, by omega, ?_⟩
    rw [ents_take hlt, he]
    exact subT
  · obtain rfl : k = ks.length := by omega
    rw [List.take_length]
    repeat' (first | (refine LT.consT ?_; refine T.callRow Tryz.func35 rfl rfl rfl gS (by decide) rfl ?_) | refine stpBuild_1 ?_ | refine stp ?_ | (refine stq ?_ ?_ <;> intro _))
    refine ⟨by first | exact .inl rfl | exact .inr rfl, _, (.cons (.tmp 4 (A := .row _ _ _ _) rfl (fun _ h => by cases h)) .nil), ?_, rfl⟩
    rfl
set_option maxRecDepth 100000 in
set_option maxHeartbeats 2000000 in
theorem g_BuildN (rs : List Rte) (mode : Int) (h : ¬ (0 ≤ mode ∧ mode ≤ 2)) : Good Tryz.prog 8 [.sl 4 (rs.map encR), .val (.int .i64 mode)] (.sl 6 (([] : List Ent).map encE)) := by
  have gM := g_Mode mode
  rw [decide_eq_false h] at gM
  refine Good.of_body (T := [(0, _), (1, _)]) Tryz.func8 rfl rfl rfl ?_
  intro K0 w0 hno
  repeat' (first | (refine CT.sub (S' := ⟨[(4, .sl 6 (([] : List Ent).map encE))], [], []⟩) ?_ (CT.ret ?_)) | (apply LT.cons1; (first | exact OpH.callF Tryz.func33 rfl rfl rfl gM rfl); (try decide)) | refine stpBuild_1 ?_ | refine stp ?_ | (refine stq ?_ ?_ <;> intro _))
  · exact subT
  · refine ⟨by first | exact .inl rfl | exact .inr rfl, _, (.cons (.tmp 4 (A := .sl _ _) rfl (fun _ h => by cases h)) .nil), ?_, rfl⟩
    rfl
end Go.Proofs.YtjmnnkhdadoehaaGreat
