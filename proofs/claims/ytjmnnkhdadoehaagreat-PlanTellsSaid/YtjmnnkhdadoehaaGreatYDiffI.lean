/- Abstract contracts: diff.Steps. -/
import Derived.Test.YtjmnnkhdadoehaaGreatYDiffH
namespace Go.Proofs.YtjmnnkhdadoehaaGreat
set_option linter.unusedSimpArgs false
set_option linter.unusedVariables false
open Go Go.RowKit Go.Shelf
theorem backs_drop (b xs : List Ent) : (backs xs xs.length).flatMap (fun p => dropStep b p.2) = xs.reverse.flatMap (dropStep b) := by
  have e : (backs xs xs.length).map Prod.snd = xs.reverse := by
    apply List.ext_getElem?
    intro i
    unfold backs
    rw [List.map_map, List.getElem?_map]
    by_cases hi : i < xs.length
    · rw [List.getElem?_range hi, List.getElem?_reverse hi]
      have : xs.length - 1 - i < xs.length := by omega
      rw [List.getElem?_eq_getElem this]
      simp [nth_at xs this]
    · rw [List.getElem?_eq_none (by simpa using hi), List.getElem?_eq_none (by simpa using hi)]; rfl
  rw [← e, List.flatMap_map]
attribute [local irreducible] OpH OpT LT CT HT Good GoodO CTI
theorem arm14_1 {p : Prop} (h : p := by first | exact fm0 | exact fm53 | exact OpH.callFW Tryz.func40 rfl rfl rfl ((g_Once _ (by first | omega | (simp; omega) | simp))) | exact OpH.loadC1 (t := 28) rfl (by kernel_rfl) rfl | exact OpH.loadB1 (t := 28) rfl rfl (by kernel_rfl) rfl | exact OpH.loadA1 (t := 28) rfl rfl rfl (map_at bd) (by kernel_rfl) rfl rfl | exact fm14 | exact fm44 | exact fm41 | exact fm6 | exact fm39 | exact OpH.indexA (t := 28) (k := 6) rfl rfl rfl rfl (by kernel_rfl) bd | exact fm63 | exact fm47 | exact OpH.callL Tryz.func41 rfl rfl rfl ((g_at _ _ (by first | omega | (simp; omega) | simp))) | exact OpH.loadC1 (t := 41) rfl (by kernel_rfl) rfl | exact OpH.loadB1 (t := 41) rfl rfl (by kernel_rfl) rfl | exact OpH.loadA1 (t := 41) rfl rfl rfl (map_at bd) (by kernel_rfl) rfl rfl | exact build_82_0_1 rfl rfl | exact OpH.build (t := 82) (cells := #[_, _, _, _, _, _, _]) (by kernel_rfl) rfl | exact lit_41_1 rfl | exact fm26 | exact fm17 | exact OpH.fieldA (s := 46) (f := 2) (off := 5) rfl (by kernel_rfl) rfl | exact fm50 | exact fm48 | exact fm7 | exact fm4 | fail) : p := h
theorem stpDiffI_1 {G G' : Prop} (h' : G') (h : Hidd G' → G := by (first | (intro h; (first | refine CT.seqD (id := 1) 5 (by kernel_rfl) (by kernel_rfl) ?_ | refine CT.seqD (id := 9) 8 (by kernel_rfl) (by kernel_rfl) ?_ | refine CT.draw (id := 1) 5 (by kernel_rfl) (by kernel_rfl) ?_ | refine CT.draw (id := 9) 8 (by kernel_rfl) (by kernel_rfl) ?_ | (refine LT.consT ?_; (first | refine T.box (e := 28) (cs := [.val _]) rfl rfl (by decide) rfl rfl ?_ | refine T.boxS (e := 28) rfl (.sl _ _) (by decide) rfl rfl ?_ | refine T.boxS (e := 28) rfl (.row _ _ _ _) (by decide) rfl rfl ?_ | refine T.boxS (e := 28) rfl (.full _ _) (by decide) rfl rfl ?_ | refine T.callRow Tryz.func40 rfl rfl rfl ((g_Once _ (by first | omega | (simp; omega) | simp))) (by decide) rfl ?_ | refine T.storeA (t := 28) rfl rfl rfl rfl (map_at bd) (by kernel_rfl) (by kernel_rfl) (Nat.le_of_ble_eq_true (by kernel_rfl)) rfl rfl rfl ?_ | refine T.store (t := 28) rfl rfl rfl (by kernel_rfl) (by kernel_rfl) (Nat.le_of_ble_eq_true (by kernel_rfl)) rfl rfl ?_ | refine T.store1 (t := 28) rfl rfl (.sl (.sl _ _)) rfl rfl (by kernel_rfl) (Nat.le_of_ble_eq_true (by kernel_rfl)) rfl rfl ?_ | refine T.store1 (t := 28) rfl rfl (.sl (.row _ _ _ _)) rfl rfl (by kernel_rfl) (Nat.le_of_ble_eq_true (by kernel_rfl)) rfl rfl ?_ | refine T.store1 (t := 28) rfl rfl (.sl (.full _ _)) rfl rfl (by kernel_rfl) (Nat.le_of_ble_eq_true (by kernel_rfl)) rfl rfl ?_ | refine T.store1 (t := 28) rfl rfl (.arow) rfl rfl (by kernel_rfl) (Nat.le_of_ble_eq_true (by kernel_rfl)) rfl rfl ?_ | refine T.alloc (e := 41) (z := .slice none 0 0) (cs := [.val (.slice none 0 0)]) (by kernel_rfl) rfl (by decide) rfl rfl ?_ | refine T.callRow Tryz.func36 rfl rfl rfl ((g_eSort _ (by first | omega | (simp; omega) | simp))) (by decide) rfl ?_ | refine T.alloc (e := 46) (z := .agg #[.int .u64 0, .int .u64 0, .int .u64 0, .int .u64 0, .int .i64 0, .int .i64 0]) (cs := [.val (.int .u64 0), .val (.int .u64 0), .val (.int .u64 0), .val (.int .u64 0), .val (.int .i64 0), .val (.int .i64 0)]) (by kernel_rfl) rfl (by decide) rfl rfl ?_ | refine T.storeA (t := 46) rfl rfl rfl rfl (map_at bd) (by kernel_rfl) (by kernel_rfl) (Nat.le_of_ble_eq_true (by kernel_rfl)) rfl rfl rfl ?_ | refine T.store (t := 46) rfl rfl rfl (by kernel_rfl) (by kernel_rfl) (Nat.le_of_ble_eq_true (by kernel_rfl)) rfl rfl ?_ | refine T.appNil (t := 41) (e := 82) (k := 7) (bytes := 56) rfl rfl srP (by kernel_rfl) szP (by decide) rfl ?_ | refine T.appA (t := 41) (e := 82) (k := 7) (bytes := 56) rfl rfl rfl srP (by kernel_rfl) szP (by decide) rfl rfl ?_ | refine T.app (t := 41) (e := 82) (k := 7) (bytes := 56) rfl rfl srP (by kernel_rfl) szP (by decide) rfl rfl ?_ | refine T.storeA (t := 41) rfl rfl rfl rfl (map_at bd) (by kernel_rfl) (by kernel_rfl) (Nat.le_of_ble_eq_true (by kernel_rfl)) rfl rfl rfl ?_ | refine T.store (t := 41) rfl rfl rfl (by kernel_rfl) (by kernel_rfl) (Nat.le_of_ble_eq_true (by kernel_rfl)) rfl rfl ?_ | refine T.store1 (t := 41) rfl rfl (.sl (.sl _ _)) rfl rfl (by kernel_rfl) (Nat.le_of_ble_eq_true (by kernel_rfl)) rfl rfl ?_ | refine T.store1 (t := 41) rfl rfl (.sl (.row _ _ _ _)) rfl rfl (by kernel_rfl) (Nat.le_of_ble_eq_true (by kernel_rfl)) rfl rfl ?_ | refine T.store1 (t := 41) rfl rfl (.sl (.full _ _)) rfl rfl (by kernel_rfl) (Nat.le_of_ble_eq_true (by kernel_rfl)) rfl rfl ?_ | refine T.store1 (t := 41) rfl rfl (.arow) rfl rfl (by kernel_rfl) (Nat.le_of_ble_eq_true (by kernel_rfl)) rfl rfl ?_)) | ((first | apply LT.cons1 | apply HT.cons1); exact arm14_1; (try decide))); exact h.1) | fail)) : G := h ⟨h'⟩
theorem stpDiffI_2 {G G' : Prop} (h' : G') (h : Hidd G' → G := by (first | (intro h; (first | refine CTI.seqD (id := 1) 5 (by kernel_rfl) (by kernel_rfl) (by kernel_rfl) ?_ | refine CTI.seqD (id := 9) 8 (by kernel_rfl) (by kernel_rfl) (by kernel_rfl) ?_ | refine CTI.draw (id := 1) 5 (by kernel_rfl) (by kernel_rfl) (by kernel_rfl) ?_ | refine CTI.draw (id := 9) 8 (by kernel_rfl) (by kernel_rfl) (by kernel_rfl) ?_ | (refine LT.consT ?_; (first | refine T.box (e := 28) (cs := [.val _]) rfl rfl (by decide) rfl rfl ?_ | refine T.boxS (e := 28) rfl (.sl _ _) (by decide) rfl rfl ?_ | refine T.boxS (e := 28) rfl (.row _ _ _ _) (by decide) rfl rfl ?_ | refine T.boxS (e := 28) rfl (.full _ _) (by decide) rfl rfl ?_ | refine T.callRow Tryz.func40 rfl rfl rfl ((g_Once _ (by first | omega | (simp; omega) | simp))) (by decide) rfl ?_ | refine T.storeA (t := 28) rfl rfl rfl rfl (map_at bd) (by kernel_rfl) (by kernel_rfl) (Nat.le_of_ble_eq_true (by kernel_rfl)) rfl rfl rfl ?_ | refine T.store (t := 28) rfl rfl rfl (by kernel_rfl) (by kernel_rfl) (Nat.le_of_ble_eq_true (by kernel_rfl)) rfl rfl ?_ | refine T.store1 (t := 28) rfl rfl (.sl (.sl _ _)) rfl rfl (by kernel_rfl) (Nat.le_of_ble_eq_true (by kernel_rfl)) rfl rfl ?_ | refine T.store1 (t := 28) rfl rfl (.sl (.row _ _ _ _)) rfl rfl (by kernel_rfl) (Nat.le_of_ble_eq_true (by kernel_rfl)) rfl rfl ?_ | refine T.store1 (t := 28) rfl rfl (.sl (.full _ _)) rfl rfl (by kernel_rfl) (Nat.le_of_ble_eq_true (by kernel_rfl)) rfl rfl ?_ | refine T.store1 (t := 28) rfl rfl (.arow) rfl rfl (by kernel_rfl) (Nat.le_of_ble_eq_true (by kernel_rfl)) rfl rfl ?_ | refine T.alloc (e := 41) (z := .slice none 0 0) (cs := [.val (.slice none 0 0)]) (by kernel_rfl) rfl (by decide) rfl rfl ?_ | refine T.callRow Tryz.func36 rfl rfl rfl ((g_eSort _ (by first | omega | (simp; omega) | simp))) (by decide) rfl ?_ | refine T.alloc (e := 46) (z := .agg #[.int .u64 0, .int .u64 0, .int .u64 0, .int .u64 0, .int .i64 0, .int .i64 0]) (cs := [.val (.int .u64 0), .val (.int .u64 0), .val (.int .u64 0), .val (.int .u64 0), .val (.int .i64 0), .val (.int .i64 0)]) (by kernel_rfl) rfl (by decide) rfl rfl ?_ | refine T.storeA (t := 46) rfl rfl rfl rfl (map_at bd) (by kernel_rfl) (by kernel_rfl) (Nat.le_of_ble_eq_true (by kernel_rfl)) rfl rfl rfl ?_ | refine T.store (t := 46) rfl rfl rfl (by kernel_rfl) (by kernel_rfl) (Nat.le_of_ble_eq_true (by kernel_rfl)) rfl rfl ?_ | refine T.appNil (t := 41) (e := 82) (k := 7) (bytes := 56) rfl rfl srP (by kernel_rfl) szP (by decide) rfl ?_ | refine T.appA (t := 41) (e := 82) (k := 7) (bytes := 56) rfl rfl rfl srP (by kernel_rfl) szP (by decide) rfl rfl ?_ | refine T.app (t := 41) (e := 82) (k := 7) (bytes := 56) rfl rfl srP (by kernel_rfl) szP (by decide) rfl rfl ?_ | refine T.storeA (t := 41) rfl rfl rfl rfl (map_at bd) (by kernel_rfl) (by kernel_rfl) (Nat.le_of_ble_eq_true (by kernel_rfl)) rfl rfl rfl ?_ | refine T.store (t := 41) rfl rfl rfl (by kernel_rfl) (by kernel_rfl) (Nat.le_of_ble_eq_true (by kernel_rfl)) rfl rfl ?_ | refine T.store1 (t := 41) rfl rfl (.sl (.sl _ _)) rfl rfl (by kernel_rfl) (Nat.le_of_ble_eq_true (by kernel_rfl)) rfl rfl ?_ | refine T.store1 (t := 41) rfl rfl (.sl (.row _ _ _ _)) rfl rfl (by kernel_rfl) (Nat.le_of_ble_eq_true (by kernel_rfl)) rfl rfl ?_ | refine T.store1 (t := 41) rfl rfl (.sl (.full _ _)) rfl rfl (by kernel_rfl) (Nat.le_of_ble_eq_true (by kernel_rfl)) rfl rfl ?_ | refine T.store1 (t := 41) rfl rfl (.arow) rfl rfl (by kernel_rfl) (Nat.le_of_ble_eq_true (by kernel_rfl)) rfl rfl ?_)) | ((first | apply LT.cons1 | apply HT.cons1); exact arm14_1; (try decide))); exact h.1) | fail)) : G := h ⟨h'⟩
set_option maxRecDepth 100000 in
set_option maxHeartbeats 2000000 in
theorem g_Steps (old new : List Ent) (hl : old.length ≤ 4096) (hm : new.length ≤ 4096) : Good Tryz.prog 14 [.sl 6 (old.map encE), .sl 6 (new.map encE)] (.row 1000 82 7 ((stepsOf old new).map encD)) := by
  have ha := once_length old
  have hb := once_length new
  unfold stepsOf
  obtain ⟨a, eA⟩ : ∃ a, once old = a := ⟨_, rfl⟩
  obtain ⟨b, eB⟩ : ∃ b, once new = b := ⟨_, rfl⟩
  have gA := g_Once old (by omega)
  have gB := g_Once new (by omega)
  rw [eA] at gA ha ⊢
  rw [eB] at gB hb ⊢
  have hsb := sortE_length b
  have hsa := sortE_length a
  refine Good.of_body (T := [(0, _), (1, _)]) Tryz.func14 rfl rfl rfl ?_
  intro K0 w0 hno
  repeat' (first | ((first | apply LT.cons1 | apply HT.cons1); (first | exact OpH.callFW Tryz.func40 rfl rfl rfl gA | exact OpH.callFW Tryz.func40 rfl rfl rfl gB); (try decide)) | refine stpDiffI_1 ?_ | refine stp ?_ | (refine stq ?_ ?_ <;> intro _))
  refine CT.mkarrB 5 0 1000 82 7 rfl rfl rfl rfl ?_
  refine CT.loopX (fun k : Nat => (⟨[(0, .sl 6 (a.map encE)), (3, .ptr 3 0), (5, .ptr 5 0), (16, .sl 6 ((sortE b).map encE)), (17, .val (.int .i64 (sortE b).length)), (18, .val (.int .i64 k))], [(3, [.sl 6 (b.map encE)]), (5, [.arow 1000])], [(1000, ⟨82, 7, (((sortE b).take k).flatMap (addStep a)).map encD⟩)]⟩ : St))
    (fun k => k ≤ (sortE b).length) (fun k => (sortE b).length - k) 0 ?_ (by omega) ?_
  · exact subT
  rintro k hk
  by_cases hlt : k < (sortE b).length
  · have hfl := flat_le (addStep a) (addStep_length a) ((sortE b).take k)
    have hfk : ((sortE b).take k).length = k := by simp; omega
    have hst := flat_succ (f := addStep a) hlt
    by_cases h0 : firstAt (fun y => eAlike (sortE b)[k] y) a < 0
    · have hs1 : addStep a (sortE b)[k] = [⟨0, (sortE b)[k]⟩] := by unfold addStep; rw [if_pos h0]
      rw [hs1] at hst
      repeat' (first | refine stpDiffI_1 ?_ | refine stp ?_ | (refine stq ?_ ?_ <;> intro _))
      refine ⟨k + 1, by omega, by omega, ?_⟩
      rw [hst]
      exact subT
    · obtain ⟨i, hi⟩ : ∃ i : Nat, firstAt (fun y => eAlike (sortE b)[k] y) a = (i : Int) := ⟨(firstAt (fun y => eAlike (sortE b)[k] y) a).toNat, by omega⟩
      obtain ⟨hil, _, _⟩ := firstAt_found hi
      have hg := g_at a (sortE b)[k] (by omega)
      rw [hi] at hg
      have hn : nth a i = a[i] := nth_at a hil
      by_cases h1 : a[i].act = (sortE b)[k].act
      · have hs1 : addStep a (sortE b)[k] = [] := by unfold addStep; rw [if_neg h0, hi, Int.toNat_natCast, hn, if_pos h1]
        rw [hs1, List.append_nil] at hst
        repeat' (first | ((first | apply LT.cons1 | apply HT.cons1); (first | exact OpH.callL Tryz.func41 rfl rfl rfl hg); (try decide)) | refine stpDiffI_1 ?_ | refine stp ?_ | (refine stq ?_ ?_ <;> intro _))
        refine ⟨k + 1, by omega, by omega, ?_⟩
        rw [hst]
        exact subT
      · have hs1 : addStep a (sortE b)[k] = [⟨1, (sortE b)[k]⟩] := by unfold addStep; rw [if_neg h0, hi, Int.toNat_natCast, hn, if_neg h1]
        rw [hs1] at hst
        repeat' (first | ((first | apply LT.cons1 | apply HT.cons1); (first | exact OpH.callL Tryz.func41 rfl rfl rfl hg); (try decide)) | refine stpDiffI_1 ?_ | refine stp ?_ | (refine stq ?_ ?_ <;> intro _))
        refine ⟨k + 1, by omega, by omega, ?_⟩
        rw [hst]
        exact subT
  · obtain rfl : k = (sortE b).length := by omega
    rw [List.take_of_length_le (Nat.le_refl _)]
    repeat' (first | ((first | apply LT.cons1 | apply HT.cons1); (first | exact OpH.callF Tryz.func42 rfl rfl rfl (g_Backward (sortE a)) rfl); (try decide)) | refine stpDiffI_1 ?_ | refine stp ?_ | (refine stq ?_ ?_ <;> intro _))
    refine CT.up (fun d h => absurd (hno.2 d) h) rfl ?_
    refine CT.sub (S' := ⟨[(3, .ptr 5003 0), (5, .ptr 5005 0), (50, .pr (BackIs (sortE a)))], [(5003, [.sl 6 (b.map encE)]), (5005, [.arow 1000])], [(1000, ⟨82, 7, ((sortE b).flatMap (addStep a) ++ ([] : List (Nat × Ent)).flatMap (fun p => dropStep b p.2)).map encD⟩)]⟩) ?_ ?_
    · rw [List.flatMap_nil, List.append_nil]
      exact subT
    refine CT.range (α := Nat × Ent) (tm := [(3, .ptr 5003 0), (5, .ptr 5005 0), (50, .pr (BackIs (sortE a)))]) (fun _ => [(5003, [.sl 6 (b.map encE)]), (5005, [.arow 1000])]) (fun pre => [(1000, ⟨82, 7, ((sortE b).flatMap (addStep a) ++ pre.flatMap (fun p => dropStep b p.2)).map encD⟩)])
      (fun p => .int .i64 (p.1 : Nat)) (fun p => .agg #[.int .u64 p.2.w.v.x, .int .u64 p.2.w.v.y, .int .u64 p.2.w.m.x, .int .u64 p.2.w.m.y, .int .i64 p.2.len, .int .i64 p.2.act]) (sortE a).length (fun ys => ys = backs (sortE a) (sortE a).length) (fun pre => ∃ k, k ≤ (sortE a).length ∧ pre = backs (sortE a) k) (by decide) (by decide) ?_ rfl rfl (fun _ _ => rfl) (fun _ => rfl) (by kernel_rfl) ?_ ?_
    · intro K n a' w hs
      obtain ⟨Bs, A', cap, e1, e2, e3⟩ := hs.tmp 50 K (Know.le_refl K)
      exact ⟨_, _, e1, fun args w => by rw [enters_of Tryz.func79 rfl rfl], back_stops e2 e3 hs.ok⟩
    · intro K1 B pre x hB
      repeat' (first | refine stpDiffI_2 ?_ | refine stpI ?_ | (refine stq ?_ ?_ <;> intro _))
      refine ⟨rfl, rfl, fun hpre l K2 B2 hB2 => ?_⟩
      have hf1 := flat_le (addStep a) (addStep_length a) (sortE b)
      have hf2 := flat_le (fun p : Nat × Ent => dropStep b p.2) (fun p => dropStep_length b p.2) pre
      have hf3 : ((sortE b).flatMap (addStep a) ++ pre.flatMap (fun p : Nat × Ent => dropStep b p.2)).length ≤ 8192 := by rw [List.length_append]; omega
      have hst : (sortE b).flatMap (addStep a) ++ (pre ++ [x]).flatMap (fun p : Nat × Ent => dropStep b p.2) = ((sortE b).flatMap (addStep a) ++ pre.flatMap (fun p : Nat × Ent => dropStep b p.2)) ++ dropStep b x.2 := by
        rw [List.flatMap_append, List.append_assoc]; simp
      rw [hst]
      obtain ⟨zs, eZ⟩ : ∃ zs, (sortE b).flatMap (addStep a) ++ pre.flatMap (fun p : Nat × Ent => dropStep b p.2) = zs := ⟨_, rfl⟩
      rw [eZ] at hf3 ⊢
      by_cases h0 : firstAt (fun y => eAlike x.2 y) b < 0
      · rw [show dropStep b x.2 = [⟨2, x.2⟩] from by unfold dropStep; rw [if_pos h0]]
        repeat' (first | refine stpDiffI_2 ?_ | refine stpI ?_ | (refine stq ?_ ?_ <;> intro _))
        refine ⟨rfl, rfl, ?_⟩
        rw [List.map_append]
        rfl
      · rw [show dropStep b x.2 = [] from by unfold dropStep; rw [if_neg h0], List.append_nil]
        repeat' (first | refine stpDiffI_2 ?_ | refine stpI ?_ | (refine stq ?_ ?_ <;> intro _))
        exact ⟨rfl, rfl, rfl⟩
    · rintro ys rfl
      rw [backs_drop]
      repeat' (first | (refine CT.froz hno.1 1000 rfl rfl ?_; refine CT.ret ?_) | refine stpDiffI_1 ?_ | refine stp ?_ | (refine stq ?_ ?_ <;> intro _))
      refine ⟨by first | exact .inl rfl | exact .inr rfl, _, (.cons (.tmp 4 (A := .row _ _ _ _) rfl (fun _ h => by cases h)) .nil), ?_, rfl⟩
      rfl
end Go.Proofs.YtjmnnkhdadoehaaGreat
