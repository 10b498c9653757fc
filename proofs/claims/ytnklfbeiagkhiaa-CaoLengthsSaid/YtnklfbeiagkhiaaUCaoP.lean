/- cao.Chain; law13.slot, law13.awake. -/
import Derived.Test.YtnklfbeiagkhiaaUCaoX
import Derived.Test.YtnklfbeiagkhiaaUCaoZ
import Derived.Test.YtnklfbeiagkhiaaUWalkT
namespace Go.Proofs.Ytnklfbeiagkhiaa
set_option linter.unusedSimpArgs false
set_option linter.unusedVariables false
open Go Go.RowKit Go.Shelf
/-- How many stand above one another down to entry i, behind k of those ahead of it. -/
def lv (L : List Int) (s : List Ent) (i : Nat) : Nat → Int
  | 0 => 1
  | k + 1 => if eAbove (nth s k) (nth s i) = true then (if lv L s i k < nth L k + 1 then nth L k + 1 else lv L s i k) else lv L s i k
def longsTo (s : List Ent) : Nat → List Int
  | 0 => []
  | i + 1 => longsTo s i ++ [lv (longsTo s i) s i i]
def mostTo (s : List Ent) : Nat → Int
  | 0 => 0
  | i + 1 => if mostTo s i < lv (longsTo s i) s i i then lv (longsTo s i) s i i else mostTo s i
def chainE (xs : List Ent) : Int := mostTo (sortE xs) (sortE xs).length
theorem longsTo_length (s : List Ent) : ∀ i, (longsTo s i).length = i
  | 0 => rfl
  | i + 1 => by simp only [longsTo, List.length_append, List.length_singleton, longsTo_length s i]
theorem nth_app {xs : List Int} {v : Int} {k : Nat} : nth (xs ++ [v]) k = if k < xs.length then nth xs k else if k = xs.length then v else 0 := by
  unfold nth
  rw [List.getD_eq_getElem?_getD, List.getD_eq_getElem?_getD, List.getElem?_append]
  by_cases h : k < xs.length
  · rw [if_pos h, if_pos h]
  · rw [if_neg h, if_neg h]
    by_cases e : k = xs.length
    · rw [if_pos e, e, Nat.sub_self]; rfl
    · rw [if_neg e, List.getElem?_eq_none (by simp; omega)]; rfl
theorem nth_set {M : List Int} {i k : Nat} {v : Int} (hi : i < M.length) : nth (M.set i v) k = if k = i then v else nth M k := by
  unfold nth
  rw [List.getD_eq_getElem?_getD, List.getElem?_set, List.getD_eq_getElem?_getD]
  by_cases e : k = i
  · subst e; rw [if_pos rfl, if_pos rfl, if_pos hi]; rfl
  · rw [if_neg (fun h => e h.symm), if_neg e]
attribute [local irreducible] OpH OpT LT CT HT Good
theorem arm65_1 {p : Prop} (h : p := by first | exact OpH.assign (v := .val _) rfl | exact OpH.assign (v := .sl _ _) rfl | exact OpH.assign (v := .row _ _ _ _) rfl | exact OpH.assign (v := .full _ _) rfl | exact OpH.assign (v := .ptr _ _) rfl | exact OpH.assign (v := .cptr _) rfl | exact OpH.assign (v := .cloB _ _) rfl | exact OpH.assign (v := .clo _ _) rfl | exact OpH.assign (v := .pr _) rfl | exact OpH.assign (v := .arow _) rfl | exact OpH.assign (v := .aptr _ _ _ _) rfl | exact OpH.assign (v := .asub _ _ _ _) rfl | exact OpH.assign (v := .tup _) rfl | exact OpH.move (v := .val _) rfl | exact OpH.move (v := .sl _ _) rfl | exact OpH.move (v := .row _ _ _ _) rfl | exact OpH.move (v := .full _ _) rfl | exact OpH.move (v := .ptr _ _) rfl | exact OpH.move (v := .cptr _) rfl | exact OpH.move (v := .cloB _ _) rfl | exact OpH.move (v := .clo _ _) rfl | exact OpH.move (v := .pr _) rfl | exact OpH.move (v := .arow _) rfl | exact OpH.move (v := .aptr _ _ _ _) rfl | exact OpH.move (v := .asub _ _ _ _) rfl | exact OpH.move (v := .tup _) rfl | exact OpH.callFW Try.func63 rfl rfl rfl ((g_eSort _ (by first | omega | (simp; omega) | simp))) | exact OpH.lenM (t := 29) rfl (.sl _ _) (by kernel_rfl) | exact OpH.lenM (t := 29) rfl (.row _ _ _ _) (by kernel_rfl) | exact OpH.lenM (t := 29) rfl (.full _ _) (by kernel_rfl) | exact OpH.len (t := 29) rfl slP (by kernel_rfl) | exact OpH.lenNil (t := 29) rfl (by kernel_rfl) | exact OpH.lenA (t := 29) rfl rfl (by kernel_rfl) (List.length_map _) | exact OpH.lenA (t := 29) rfl rfl (by kernel_rfl) rfl | exact OpH.bin rfl rfl (pb_lss_t (by omega)) | exact OpH.bin rfl rfl (pb_lss_f (by omega)) | exact OpH.bin rfl rfl (pb_lss) | exact OpH.indexS (t := 29) (k := 6) rfl slP rfl rfl (by kernel_rfl) (map_at bd) rfl | exact OpH.indexA (t := 29) (k := 6) rfl rfl rfl rfl (by kernel_rfl) bd | exact loadC6 (t := 36) rfl (by kernel_rfl) | exact loadB6 (t := 36) rfl rfl (by kernel_rfl) rfl | exact OpH.loadA (t := 36) (vs := [_, _, _, _, _, _]) rfl rfl rfl (map_at bd) (by kernel_rfl) rfl rfl | exact OpH.indexS (t := 117) (k := 1) rfl slP rfl rfl (by kernel_rfl) (map_at bd) rfl | exact OpH.indexA (t := 117) (k := 1) rfl rfl rfl rfl (by kernel_rfl) bd | exact OpH.subHi (t := 29) (k := 6) rfl slP (by kernel_rfl) rfl rfl bd | exact OpH.callL Try.func115 rfl rfl rfl (g_Above _ _ _ _ _ _ _ _ _ _ _ _) | exact OpH.loadC1 (t := 3) rfl (by kernel_rfl) rfl | exact OpH.loadB1 (t := 3) rfl rfl (by kernel_rfl) rfl | exact OpH.loadA1 (t := 3) rfl rfl rfl (map_at bd) (by kernel_rfl) rfl rfl | exact OpH.bin rfl rfl (pb_inc (by omega)) | exact OpH.bin rfl rfl (pb_addN rfl (by omega)) | exact OpH.bin rfl rfl (pb_add (by omega)) | exact OpH.bin rfl rfl (pb_addw) | exact OpH.max2 rfl rfl) : p := h
set_option maxRecDepth 100000 in
set_option maxHeartbeats 4000000 in
theorem g_Chain (xs : List Ent) (hl : xs.length ≤ 60000) : Good Try.prog 65 [.sl 6 (xs.map encE)] (.val (.int .i64 (chainE xs))) := by
  have gS := g_eSort xs (by omega)
  have hsl := sortE_length xs
  unfold chainE
  generalize sortE xs = s at gS hsl ⊢
  have hM0 : (List.replicate s.length [Value.int .i64 0]) = (List.replicate s.length (0 : Int)).map encI := by rw [List.map_replicate]; rfl
  refine Good.of_body (T := [(0, _)]) Try.func65 rfl rfl rfl ?_
  intro K0 w0 hno
  repeat' (first | (refine LT.consT ?_; refine T.callRow Try.func63 rfl rfl rfl gS (by decide) rfl ?_) | (refine LT.consT ?_; refine T.makeA (t := 117) (e := 3) (k := 1) (bytes := 8) (m := s.length) (zc := [.int .i64 0]) rfl rfl rfl rfl (by kernel_rfl) (by kernel_rfl) rfl (by omega) (by decide) rfl ?_) | refine CT.seqR ?_ | refine CT.seqD (id := 12) 13 (by kernel_rfl) (by kernel_rfl) ?_ | refine CT.draw (id := 12) 13 (by kernel_rfl) (by kernel_rfl) ?_ | refine CT.region ?_ | refine CT.seq1 ?_ | refine CT.block ?_ | refine CT.condT rfl ?_ | refine CT.condF rfl ?_ | refine CT.condD rfl (fun _ => ?_) (fun _ => ?_) | refine CT.condN rfl (fun _ => ?_) (fun _ => ?_) | refine CT.cond rfl (fun _ => ?_) (fun _ => ?_) | refine CT.skip ?_ | refine CT.exit ?_ | refine CT.ret ?_ | refine CT.goto ?_ | refine CT.label ?_ | refine LT.nil ?_ | refine HT.nil1 ?_ | (refine LT.consT ?_; (first | refine T.callRow Try.func63 rfl rfl rfl ((g_eSort _ (by first | omega | (simp; omega) | simp))) (by decide) rfl ?_ | refine T.alloc (e := 36) (z := .agg #[.int .u64 0, .int .u64 0, .int .u64 0, .int .u64 0, .int .i64 0, .int .i64 0]) (cs := [.val (.int .u64 0), .val (.int .u64 0), .val (.int .u64 0), .val (.int .u64 0), .val (.int .i64 0), .val (.int .i64 0)]) (by kernel_rfl) rfl (by decide) rfl rfl ?_ | refine T.storeA (t := 36) rfl rfl rfl rfl (map_at bd) (by kernel_rfl) (by kernel_rfl) (Nat.le_of_ble_eq_true (by kernel_rfl)) rfl rfl rfl ?_ | refine T.store (t := 36) rfl rfl rfl (by kernel_rfl) (by kernel_rfl) (Nat.le_of_ble_eq_true (by kernel_rfl)) rfl rfl ?_ | refine T.storeA (t := 3) rfl rfl rfl rfl (map_at bd) (by kernel_rfl) (by kernel_rfl) (Nat.le_of_ble_eq_true (by kernel_rfl)) rfl rfl rfl ?_ | refine T.store (t := 3) rfl rfl rfl (by kernel_rfl) (by kernel_rfl) (Nat.le_of_ble_eq_true (by kernel_rfl)) rfl rfl ?_ | refine T.cutA (t := 29) (k := 6) rfl rfl rfl rfl (by kernel_rfl) bd (by decide) rfl rfl rfl ?_)) | (apply LT.cons1; (first | exact arm65_1); decide) | (apply HT.cons1; (first | exact arm65_1)))
  refine CT.loopX (fun q : Nat × List Int => (⟨[(3, .row 3 36 6 (s.map encE)), (4, .arow 14), (5, .val (.int .i64 (mostTo s q.1))), (15, .sl 6 (s.map encE)), (16, .val (.int .i64 s.length)), (17, .val (.int .i64 q.1))], [], [(14, ⟨3, 1, q.2.map encI⟩)]⟩ : St))
    (fun q => q.1 ≤ s.length ∧ q.2.length = s.length ∧ (∀ k, k < q.1 → nth q.2 k = nth (longsTo s q.1) k ∧ 1 ≤ nth q.2 k ∧ nth q.2 k ≤ k + 1)) (fun q => s.length - q.1) (0, List.replicate s.length 0) ?_ ⟨by dsimp only; omega, by simp, fun k h => by dsimp only at h; omega⟩ ?_
  · rw [show mostTo s 0 = 0 from rfl]
    (apply Sub.mk; (focus (repeat (first | exact .nil | refine .other (.keep rfl rfl) ?_ | refine .other (.aref rfl rfl rfl) ?_ | refine .other (.val rfl (by first | rfl | (congr 1; first | omega | assumption | (symm; assumption)) | (simp; omega))) ?_ | refine .other .dead ?_ | refine .other (.sl rfl (.row _ _ _ _) rfl) ?_ | refine .other (.sl rfl (.sl _ _) rfl) ?_ | refine .other (.sl rfl (.full _ _) rfl) ?_ | refine .other (.slNil rfl rfl) ?_ | refine .rowNil rfl rfl rfl ?_ | refine .row rfl (by first | rfl | assumption | (rw [← List.map_append]; first | done | rfl | congr 1)) rfl rfl ?_))); (focus (repeat (first | exact .nil | refine KeepB.same rfl rfl rfl ?_ | refine KeepB.sameA rfl rfl rfl ?_))); (focus (repeat (first | exact .nil | refine KeepA.cons rfl (by first | rfl | assumption | exact List.map_set | exact List.map_set.symm | (rw [← List.map_append]; first | done | rfl | congr 1) | (congr 1; first | omega | assumption)) ?_))))
  rintro ⟨i, M⟩ ⟨hi, hML, hM⟩
  dsimp only at hi hML hM ⊢
  by_cases hlt : i < s.length
  · have hiM : i < M.length := by omega
    repeat' (first | refine CT.seqR ?_ | refine CT.seqD (id := 12) 13 (by kernel_rfl) (by kernel_rfl) ?_ | refine CT.draw (id := 12) 13 (by kernel_rfl) (by kernel_rfl) ?_ | refine CT.region ?_ | refine CT.seq1 ?_ | refine CT.block ?_ | refine CT.condT rfl ?_ | refine CT.condF rfl ?_ | refine CT.condD rfl (fun _ => ?_) (fun _ => ?_) | refine CT.condN rfl (fun _ => ?_) (fun _ => ?_) | refine CT.cond rfl (fun _ => ?_) (fun _ => ?_) | refine CT.skip ?_ | refine CT.exit ?_ | refine CT.ret ?_ | refine CT.goto ?_ | refine CT.label ?_ | refine LT.nil ?_ | refine HT.nil1 ?_ | (refine LT.consT ?_; (first | refine T.callRow Try.func63 rfl rfl rfl ((g_eSort _ (by first | omega | (simp; omega) | simp))) (by decide) rfl ?_ | refine T.alloc (e := 36) (z := .agg #[.int .u64 0, .int .u64 0, .int .u64 0, .int .u64 0, .int .i64 0, .int .i64 0]) (cs := [.val (.int .u64 0), .val (.int .u64 0), .val (.int .u64 0), .val (.int .u64 0), .val (.int .i64 0), .val (.int .i64 0)]) (by kernel_rfl) rfl (by decide) rfl rfl ?_ | refine T.storeA (t := 36) rfl rfl rfl rfl (map_at bd) (by kernel_rfl) (by kernel_rfl) (Nat.le_of_ble_eq_true (by kernel_rfl)) rfl rfl rfl ?_ | refine T.store (t := 36) rfl rfl rfl (by kernel_rfl) (by kernel_rfl) (Nat.le_of_ble_eq_true (by kernel_rfl)) rfl rfl ?_ | refine T.storeA (t := 3) rfl rfl rfl rfl (map_at bd) (by kernel_rfl) (by kernel_rfl) (Nat.le_of_ble_eq_true (by kernel_rfl)) rfl rfl rfl ?_ | refine T.store (t := 3) rfl rfl rfl (by kernel_rfl) (by kernel_rfl) (Nat.le_of_ble_eq_true (by kernel_rfl)) rfl rfl ?_ | refine T.cutA (t := 29) (k := 6) rfl rfl rfl rfl (by kernel_rfl) bd (by decide) rfl rfl rfl ?_)) | (apply LT.cons1; (first | exact arm65_1); decide) | (apply HT.cons1; (first | exact arm65_1)))
    refine CT.loopX (fun q : Nat × List Int => (⟨[(3, .row 3 36 6 (s.map encE)), (4, .arow 14), (5, .val (.int .i64 (mostTo s i))), (6, .val (.int .i64 i)), (7, .ptr 7 0), (15, .sl 6 (s.map encE)), (16, .val (.int .i64 s.length)), (17, .val (.int .i64 i)), (27, .sl 6 ((s.take i).map encE)), (28, .val (.int .i64 (s.take i).length)), (29, .val (.int .i64 q.1))], [(7, (encE s[i]).map AV.val)], [(14, ⟨3, 1, q.2.map encI⟩)]⟩ : St))
      (fun q => q.1 ≤ i ∧ q.2.length = s.length ∧ (∀ k, k < i → nth q.2 k = nth (longsTo s i) k ∧ 1 ≤ nth q.2 k ∧ nth q.2 k ≤ k + 1) ∧ nth q.2 i = lv (longsTo s i) s i q.1 ∧ 1 ≤ nth q.2 i ∧ nth q.2 i ≤ i + 1) (fun q => i - q.1) (0, M.set i 1) ?_ ⟨by dsimp only; omega, by simp [hML], fun k h => by dsimp only; rw [nth_set hiM, if_neg (by omega)]; exact hM k h, by dsimp only; rw [nth_set hiM, if_pos rfl]; rfl, by dsimp only; rw [nth_set hiM, if_pos rfl]; omega, by dsimp only; rw [nth_set hiM, if_pos rfl]; omega⟩ ?_
    · (apply Sub.mk; (focus (repeat (first | exact .nil | refine .other (.keep rfl rfl) ?_ | refine .other (.aref rfl rfl rfl) ?_ | refine .other (.val rfl (by first | rfl | (congr 1; first | omega | assumption | (symm; assumption)) | (simp; omega))) ?_ | refine .other .dead ?_ | refine .other (.sl rfl (.row _ _ _ _) rfl) ?_ | refine .other (.sl rfl (.sl _ _) rfl) ?_ | refine .other (.sl rfl (.full _ _) rfl) ?_ | refine .other (.slNil rfl rfl) ?_ | refine .rowNil rfl rfl rfl ?_ | refine .row rfl (by first | rfl | assumption | (rw [← List.map_append]; first | done | rfl | congr 1)) rfl rfl ?_))); (focus (repeat (first | exact .nil | refine KeepB.same rfl rfl rfl ?_ | refine KeepB.sameA rfl rfl rfl ?_))); (focus (repeat (first | exact .nil | refine KeepA.cons rfl (by first | rfl | assumption | exact List.map_set | exact List.map_set.symm | (rw [← List.map_append]; first | done | rfl | congr 1) | (congr 1; first | omega | assumption)) ?_))))
    clear hM hML hiM
    clear M
    rintro ⟨k, M⟩ ⟨hk, hML, hM, hMi, hb1, hb2⟩
    dsimp only at hk hML hM hMi hb1 hb2 ⊢
    have hiM : i < M.length := by omega
    have htl : (s.take i).length = i := by rw [List.length_take]; omega
    by_cases hki : k < i
    · have hkt : k < (s.take i).length := by omega
      have hks : k < s.length := by omega
      have hkM : k < M.length := by omega
      have hge : (s.take i)[k] = s[k] := List.getElem_take
      obtain ⟨m1, m2, m3⟩ := hM k hki
      have gA : Good Try.prog 115 [.val (.agg #[.int .u64 ((s.take i)[k]).w.v.x, .int .u64 ((s.take i)[k]).w.v.y, .int .u64 ((s.take i)[k]).w.m.x, .int .u64 ((s.take i)[k]).w.m.y, .int .i64 ((s.take i)[k]).len, .int .i64 ((s.take i)[k]).act]), .val (.agg #[.int .u64 (s[i]).w.v.x, .int .u64 (s[i]).w.v.y, .int .u64 (s[i]).w.m.x, .int .u64 (s[i]).w.m.y, .int .i64 (s[i]).len, .int .i64 (s[i]).act])] (.val (.bool (eAbove s[k] s[i]))) := by rw [hge]; exact g_AboveE _ _
      have hst : lv (longsTo s i) s i (k + 1) = if eAbove s[k] s[i] = true then (if lv (longsTo s i) s i k < nth (longsTo s i) k + 1 then nth (longsTo s i) k + 1 else lv (longsTo s i) s i k) else lv (longsTo s i) s i k := by
        simp only [lv, nth_at s hks, nth_at s hlt]
      rw [← hMi, ← m1, nth_at M hiM, nth_at M hkM] at hst
      rw [nth_at M hkM] at m2 m3
      cases hA : eAbove s[k] s[i] with
      | true =>
        rw [hA] at gA hst
        rw [if_pos rfl] at hst
        repeat' (first | refine CT.seqR ?_ | refine CT.seqD (id := 12) 13 (by kernel_rfl) (by kernel_rfl) ?_ | refine CT.draw (id := 12) 13 (by kernel_rfl) (by kernel_rfl) ?_ | refine CT.region ?_ | refine CT.seq1 ?_ | refine CT.block ?_ | refine CT.condT rfl ?_ | refine CT.condF rfl ?_ | refine CT.condD rfl (fun _ => ?_) (fun _ => ?_) | refine CT.condN rfl (fun _ => ?_) (fun _ => ?_) | refine CT.cond rfl (fun _ => ?_) (fun _ => ?_) | refine CT.skip ?_ | refine CT.exit ?_ | refine CT.ret ?_ | refine CT.goto ?_ | refine CT.label ?_ | refine LT.nil ?_ | refine HT.nil1 ?_ | (refine LT.consT ?_; (first | refine T.callRow Try.func63 rfl rfl rfl ((g_eSort _ (by first | omega | (simp; omega) | simp))) (by decide) rfl ?_ | refine T.alloc (e := 36) (z := .agg #[.int .u64 0, .int .u64 0, .int .u64 0, .int .u64 0, .int .i64 0, .int .i64 0]) (cs := [.val (.int .u64 0), .val (.int .u64 0), .val (.int .u64 0), .val (.int .u64 0), .val (.int .i64 0), .val (.int .i64 0)]) (by kernel_rfl) rfl (by decide) rfl rfl ?_ | refine T.storeA (t := 36) rfl rfl rfl rfl (map_at bd) (by kernel_rfl) (by kernel_rfl) (Nat.le_of_ble_eq_true (by kernel_rfl)) rfl rfl rfl ?_ | refine T.store (t := 36) rfl rfl rfl (by kernel_rfl) (by kernel_rfl) (Nat.le_of_ble_eq_true (by kernel_rfl)) rfl rfl ?_ | refine T.storeA (t := 3) rfl rfl rfl rfl (map_at bd) (by kernel_rfl) (by kernel_rfl) (Nat.le_of_ble_eq_true (by kernel_rfl)) rfl rfl rfl ?_ | refine T.store (t := 3) rfl rfl rfl (by kernel_rfl) (by kernel_rfl) (Nat.le_of_ble_eq_true (by kernel_rfl)) rfl rfl ?_ | refine T.cutA (t := 29) (k := 6) rfl rfl rfl rfl (by kernel_rfl) bd (by decide) rfl rfl rfl ?_)) | (apply LT.cons1; (first | exact OpH.callF Try.func115 rfl rfl rfl gA rfl | exact arm65_1); decide) | (apply HT.cons1; (first | exact OpH.callF Try.func115 rfl rfl rfl gA rfl | exact arm65_1)))
        refine ⟨(k + 1, M.set i (if M[i] < M[k] + 1 then M[k] + 1 else M[i])), ⟨by dsimp only; omega, by simp [hML], fun j h => ?_, ?_, ?_, ?_⟩, by dsimp only; omega, ?_⟩
        · dsimp only
          rw [nth_set hiM, if_neg (by omega)]
          exact hM j h
        · dsimp only
          rw [nth_set hiM, if_pos rfl, hst]
        · dsimp only
          rw [nth_set hiM, if_pos rfl]
          rw [nth_at M hiM] at hb1
          split <;> omega
        · dsimp only
          rw [nth_set hiM, if_pos rfl]
          rw [nth_at M hiM] at hb2
          split <;> omega
        · dsimp only
          (apply Sub.mk; (focus (repeat (first | exact .nil | refine .other (.keep rfl rfl) ?_ | refine .other (.aref rfl rfl rfl) ?_ | refine .other (.val rfl (by first | rfl | (congr 1; first | omega | assumption | (symm; assumption)) | (simp; omega))) ?_ | refine .other .dead ?_ | refine .other (.sl rfl (.row _ _ _ _) rfl) ?_ | refine .other (.sl rfl (.sl _ _) rfl) ?_ | refine .other (.sl rfl (.full _ _) rfl) ?_ | refine .other (.slNil rfl rfl) ?_ | refine .rowNil rfl rfl rfl ?_ | refine .row rfl (by first | rfl | assumption | (rw [← List.map_append]; first | done | rfl | congr 1)) rfl rfl ?_))); (focus (repeat (first | exact .nil | refine KeepB.same rfl rfl rfl ?_ | refine KeepB.sameA rfl rfl rfl ?_))); (focus (repeat (first | exact .nil | refine KeepA.cons rfl (by first | rfl | assumption | exact List.map_set | exact List.map_set.symm | (rw [← List.map_append]; first | done | rfl | congr 1) | (congr 1; first | omega | assumption)) ?_))))
      | false =>
        rw [hA] at gA hst
        rw [if_neg (by decide), ← nth_at M hiM] at hst
        repeat' (first | refine CT.seqR ?_ | refine CT.seqD (id := 12) 13 (by kernel_rfl) (by kernel_rfl) ?_ | refine CT.draw (id := 12) 13 (by kernel_rfl) (by kernel_rfl) ?_ | refine CT.region ?_ | refine CT.seq1 ?_ | refine CT.block ?_ | refine CT.condT rfl ?_ | refine CT.condF rfl ?_ | refine CT.condD rfl (fun _ => ?_) (fun _ => ?_) | refine CT.condN rfl (fun _ => ?_) (fun _ => ?_) | refine CT.cond rfl (fun _ => ?_) (fun _ => ?_) | refine CT.skip ?_ | refine CT.exit ?_ | refine CT.ret ?_ | refine CT.goto ?_ | refine CT.label ?_ | refine LT.nil ?_ | refine HT.nil1 ?_ | (refine LT.consT ?_; (first | refine T.callRow Try.func63 rfl rfl rfl ((g_eSort _ (by first | omega | (simp; omega) | simp))) (by decide) rfl ?_ | refine T.alloc (e := 36) (z := .agg #[.int .u64 0, .int .u64 0, .int .u64 0, .int .u64 0, .int .i64 0, .int .i64 0]) (cs := [.val (.int .u64 0), .val (.int .u64 0), .val (.int .u64 0), .val (.int .u64 0), .val (.int .i64 0), .val (.int .i64 0)]) (by kernel_rfl) rfl (by decide) rfl rfl ?_ | refine T.storeA (t := 36) rfl rfl rfl rfl (map_at bd) (by kernel_rfl) (by kernel_rfl) (Nat.le_of_ble_eq_true (by kernel_rfl)) rfl rfl rfl ?_ | refine T.store (t := 36) rfl rfl rfl (by kernel_rfl) (by kernel_rfl) (Nat.le_of_ble_eq_true (by kernel_rfl)) rfl rfl ?_ | refine T.storeA (t := 3) rfl rfl rfl rfl (map_at bd) (by kernel_rfl) (by kernel_rfl) (Nat.le_of_ble_eq_true (by kernel_rfl)) rfl rfl rfl ?_ | refine T.store (t := 3) rfl rfl rfl (by kernel_rfl) (by kernel_rfl) (Nat.le_of_ble_eq_true (by kernel_rfl)) rfl rfl ?_ | refine T.cutA (t := 29) (k := 6) rfl rfl rfl rfl (by kernel_rfl) bd (by decide) rfl rfl rfl ?_)) | (apply LT.cons1; (first | exact OpH.callF Try.func115 rfl rfl rfl gA rfl | exact arm65_1); decide) | (apply HT.cons1; (first | exact OpH.callF Try.func115 rfl rfl rfl gA rfl | exact arm65_1)))
        refine ⟨(k + 1, M), ⟨by dsimp only; omega, hML, hM, by dsimp only; rw [hst], hb1, hb2⟩, by dsimp only; omega, ?_⟩
        dsimp only
        (apply Sub.mk; (focus (repeat (first | exact .nil | refine .other (.keep rfl rfl) ?_ | refine .other (.aref rfl rfl rfl) ?_ | refine .other (.val rfl (by first | rfl | (congr 1; first | omega | assumption | (symm; assumption)) | (simp; omega))) ?_ | refine .other .dead ?_ | refine .other (.sl rfl (.row _ _ _ _) rfl) ?_ | refine .other (.sl rfl (.sl _ _) rfl) ?_ | refine .other (.sl rfl (.full _ _) rfl) ?_ | refine .other (.slNil rfl rfl) ?_ | refine .rowNil rfl rfl rfl ?_ | refine .row rfl (by first | rfl | assumption | (rw [← List.map_append]; first | done | rfl | congr 1)) rfl rfl ?_))); (focus (repeat (first | exact .nil | refine KeepB.same rfl rfl rfl ?_ | refine KeepB.sameA rfl rfl rfl ?_))); (focus (repeat (first | exact .nil | refine KeepA.cons rfl (by first | rfl | assumption | exact List.map_set | exact List.map_set.symm | (rw [← List.map_append]; first | done | rfl | congr 1) | (congr 1; first | omega | assumption)) ?_))))
    · obtain rfl : k = i := by omega
      have hms : mostTo s (k + 1) = if mostTo s k < M[k] then M[k] else mostTo s k := by simp only [mostTo]; rw [← hMi, nth_at M hiM]
      repeat' (first | refine CT.seqR ?_ | refine CT.seqD (id := 12) 13 (by kernel_rfl) (by kernel_rfl) ?_ | refine CT.draw (id := 12) 13 (by kernel_rfl) (by kernel_rfl) ?_ | refine CT.region ?_ | refine CT.seq1 ?_ | refine CT.block ?_ | refine CT.condT rfl ?_ | refine CT.condF rfl ?_ | refine CT.condD rfl (fun _ => ?_) (fun _ => ?_) | refine CT.condN rfl (fun _ => ?_) (fun _ => ?_) | refine CT.cond rfl (fun _ => ?_) (fun _ => ?_) | refine CT.skip ?_ | refine CT.exit ?_ | refine CT.ret ?_ | refine CT.goto ?_ | refine CT.label ?_ | refine LT.nil ?_ | refine HT.nil1 ?_ | (refine LT.consT ?_; (first | refine T.callRow Try.func63 rfl rfl rfl ((g_eSort _ (by first | omega | (simp; omega) | simp))) (by decide) rfl ?_ | refine T.alloc (e := 36) (z := .agg #[.int .u64 0, .int .u64 0, .int .u64 0, .int .u64 0, .int .i64 0, .int .i64 0]) (cs := [.val (.int .u64 0), .val (.int .u64 0), .val (.int .u64 0), .val (.int .u64 0), .val (.int .i64 0), .val (.int .i64 0)]) (by kernel_rfl) rfl (by decide) rfl rfl ?_ | refine T.storeA (t := 36) rfl rfl rfl rfl (map_at bd) (by kernel_rfl) (by kernel_rfl) (Nat.le_of_ble_eq_true (by kernel_rfl)) rfl rfl rfl ?_ | refine T.store (t := 36) rfl rfl rfl (by kernel_rfl) (by kernel_rfl) (Nat.le_of_ble_eq_true (by kernel_rfl)) rfl rfl ?_ | refine T.storeA (t := 3) rfl rfl rfl rfl (map_at bd) (by kernel_rfl) (by kernel_rfl) (Nat.le_of_ble_eq_true (by kernel_rfl)) rfl rfl rfl ?_ | refine T.store (t := 3) rfl rfl rfl (by kernel_rfl) (by kernel_rfl) (Nat.le_of_ble_eq_true (by kernel_rfl)) rfl rfl ?_ | refine T.cutA (t := 29) (k := 6) rfl rfl rfl rfl (by kernel_rfl) bd (by decide) rfl rfl rfl ?_)) | (apply LT.cons1; (first | exact arm65_1); decide) | (apply HT.cons1; (first | exact arm65_1)))
      refine ⟨(k + 1, M), ⟨by dsimp only; omega, hML, fun j h => ?_⟩, by dsimp only; omega, ?_⟩
      · dsimp only at h ⊢
        simp only [longsTo]
        rw [nth_app, longsTo_length]
        by_cases e : j < k
        · rw [if_pos e]; exact hM j e
        · obtain rfl : j = k := by omega
          rw [if_neg e, if_pos rfl]
          exact ⟨hMi, hb1, hb2⟩
      · dsimp only
        rw [hms]
        (apply Sub.mk; (focus (repeat (first | exact .nil | refine .other (.keep rfl rfl) ?_ | refine .other (.aref rfl rfl rfl) ?_ | refine .other (.val rfl (by first | rfl | (congr 1; first | omega | assumption | (symm; assumption)) | (simp; omega))) ?_ | refine .other .dead ?_ | refine .other (.sl rfl (.row _ _ _ _) rfl) ?_ | refine .other (.sl rfl (.sl _ _) rfl) ?_ | refine .other (.sl rfl (.full _ _) rfl) ?_ | refine .other (.slNil rfl rfl) ?_ | refine .rowNil rfl rfl rfl ?_ | refine .row rfl (by first | rfl | assumption | (rw [← List.map_append]; first | done | rfl | congr 1)) rfl rfl ?_))); (focus (repeat (first | exact .nil | refine KeepB.same rfl rfl rfl ?_ | refine KeepB.sameA rfl rfl rfl ?_))); (focus (repeat (first | exact .nil | refine KeepA.cons rfl (by first | rfl | assumption | exact List.map_set | exact List.map_set.symm | (rw [← List.map_append]; first | done | rfl | congr 1) | (congr 1; first | omega | assumption)) ?_))))
  · obtain rfl : i = s.length := by omega
    repeat' (first | refine CT.seqR ?_ | refine CT.seqD (id := 12) 13 (by kernel_rfl) (by kernel_rfl) ?_ | refine CT.draw (id := 12) 13 (by kernel_rfl) (by kernel_rfl) ?_ | refine CT.region ?_ | refine CT.seq1 ?_ | refine CT.block ?_ | refine CT.condT rfl ?_ | refine CT.condF rfl ?_ | refine CT.condD rfl (fun _ => ?_) (fun _ => ?_) | refine CT.condN rfl (fun _ => ?_) (fun _ => ?_) | refine CT.cond rfl (fun _ => ?_) (fun _ => ?_) | refine CT.skip ?_ | refine CT.exit ?_ | refine CT.ret ?_ | refine CT.goto ?_ | refine CT.label ?_ | refine LT.nil ?_ | refine HT.nil1 ?_ | (refine LT.consT ?_; (first | refine T.callRow Try.func63 rfl rfl rfl ((g_eSort _ (by first | omega | (simp; omega) | simp))) (by decide) rfl ?_ | refine T.alloc (e := 36) (z := .agg #[.int .u64 0, .int .u64 0, .int .u64 0, .int .u64 0, .int .i64 0, .int .i64 0]) (cs := [.val (.int .u64 0), .val (.int .u64 0), .val (.int .u64 0), .val (.int .u64 0), .val (.int .i64 0), .val (.int .i64 0)]) (by kernel_rfl) rfl (by decide) rfl rfl ?_ | refine T.storeA (t := 36) rfl rfl rfl rfl (map_at bd) (by kernel_rfl) (by kernel_rfl) (Nat.le_of_ble_eq_true (by kernel_rfl)) rfl rfl rfl ?_ | refine T.store (t := 36) rfl rfl rfl (by kernel_rfl) (by kernel_rfl) (Nat.le_of_ble_eq_true (by kernel_rfl)) rfl rfl ?_ | refine T.storeA (t := 3) rfl rfl rfl rfl (map_at bd) (by kernel_rfl) (by kernel_rfl) (Nat.le_of_ble_eq_true (by kernel_rfl)) rfl rfl rfl ?_ | refine T.store (t := 3) rfl rfl rfl (by kernel_rfl) (by kernel_rfl) (Nat.le_of_ble_eq_true (by kernel_rfl)) rfl rfl ?_ | refine T.cutA (t := 29) (k := 6) rfl rfl rfl rfl (by kernel_rfl) bd (by decide) rfl rfl rfl ?_)) | (apply LT.cons1; (first | exact arm65_1); decide) | (apply HT.cons1; (first | exact arm65_1)))
    refine ⟨by first | exact .inl rfl | exact .inr rfl, _, (.cons (.tmp 2 (A := .val _) rfl (fun _ h => by cases h)) .nil), ?_, rfl⟩
    rfl
def slotS (n : Int) : Slt := ⟨true, eOf (pMake ⟨720857415355990016, 0⟩ n) 1⟩
theorem arm64_1 {p : Prop} (h : p := by first | exact build_25_0 rfl | exact OpH.build (t := 25) (cells := #[_, _]) (by kernel_rfl) rfl | exact OpH.move (v := .val _) rfl | exact OpH.move (v := .sl _ _) rfl | exact OpH.move (v := .row _ _ _ _) rfl | exact OpH.move (v := .full _ _) rfl | exact OpH.move (v := .ptr _ _) rfl | exact OpH.move (v := .cptr _) rfl | exact OpH.move (v := .cloB _ _) rfl | exact OpH.move (v := .clo _ _) rfl | exact OpH.move (v := .pr _) rfl | exact OpH.move (v := .arow _) rfl | exact OpH.move (v := .aptr _ _ _ _) rfl | exact OpH.move (v := .asub _ _ _ _) rfl | exact OpH.move (v := .tup _) rfl | exact OpH.callF Try.func54 rfl rfl rfl (g_pMake _ _ _) rfl | exact OpH.callF Try.func53 rfl rfl rfl (g_eOf _ _ _ _) rfl | exact build_66_0_1 rfl rfl | exact OpH.build (t := 66) (cells := #[_, _, _, _, _, _, _]) (by kernel_rfl) rfl) : p := h
set_option maxRecDepth 100000 in
set_option maxHeartbeats 2000000 in
theorem g_slot (n : Int) : Good Try.prog 64 [.val (.int .i64 n)] (.val (.agg #[.bool (slotS n).valid, .int .u64 (slotS n).e.w.v.x, .int .u64 (slotS n).e.w.v.y, .int .u64 (slotS n).e.w.m.x, .int .u64 (slotS n).e.w.m.y, .int .i64 (slotS n).e.len, .int .i64 (slotS n).e.act])) := by
  have gP := g_pMake 720857415355990016 0 n
  obtain ⟨p, hp⟩ : ∃ p, pMake ⟨720857415355990016, 0⟩ n = p := ⟨_, rfl⟩
  have gO := g_eOf p.a.x p.a.y p.len 1
  have e : slotS n = ⟨true, eOf p 1⟩ := by unfold slotS; rw [hp]
  rw [e]
  rw [hp] at gP
  refine Good.of_body (T := [(0, _)]) Try.func64 rfl rfl rfl ?_
  intro K0 w0 hno
  repeat' (first | refine CT.seqR ?_ | refine CT.region ?_ | refine CT.seq1 ?_ | refine CT.block ?_ | refine CT.condT rfl ?_ | refine CT.condF rfl ?_ | refine CT.condD rfl (fun _ => ?_) (fun _ => ?_) | refine CT.condN rfl (fun _ => ?_) (fun _ => ?_) | refine CT.cond rfl (fun _ => ?_) (fun _ => ?_) | refine CT.skip ?_ | refine CT.exit ?_ | refine CT.ret ?_ | refine CT.goto ?_ | refine CT.label ?_ | refine LT.nil ?_ | refine HT.nil1 ?_ | (refine LT.consT ?_; (first | refine T.alloc (e := 66) (z := .agg #[.bool false, .int .u64 0, .int .u64 0, .int .u64 0, .int .u64 0, .int .i64 0, .int .i64 0]) (cs := [.val (.bool false), .val (.int .u64 0), .val (.int .u64 0), .val (.int .u64 0), .val (.int .u64 0), .val (.int .i64 0), .val (.int .i64 0)]) (by kernel_rfl) rfl (by decide) rfl rfl ?_ | refine T.store (t := 66) rfl rfl rfl (by kernel_rfl) (by kernel_rfl) (Nat.le_of_ble_eq_true (by kernel_rfl)) rfl rfl ?_)) | (apply LT.cons1; (first | exact OpH.callF Try.func54 rfl rfl rfl gP rfl | exact OpH.callF Try.func53 rfl rfl rfl gO rfl | exact arm64_1); decide))
  refine ⟨by first | exact .inl rfl | exact .inr rfl, _, (.cons (.many 2 (vs := [_, _, _, _, _, _, _]) rfl rfl (by kernel_rfl) rfl rfl) .nil), ?_, rfl⟩
  rfl
end Go.Proofs.Ytnklfbeiagkhiaa

/- law13.awake. -/
namespace Go.Proofs.Ytnklfbeiagkhiaa
set_option linter.unusedSimpArgs false
set_option linter.unusedVariables false
open Go Go.RowKit Go.Shelf
theorem field_66_1 {x0 x1 x2 x3 x4 x5 x6 : Value} (w : World) : (Instr.field 66 (.agg #[x0, x1, x2, x3, x4, x5, x6]) 1).run Try.prog w = .ok (.agg #[x1, x2, x3, x4, x5, x6]) w := by kernel_rfl
def awS : List Slt := [slotS 8, slotS 0, ⟨false, ⟨⟨⟨0, 0⟩, ⟨0, 0⟩⟩, 0, 0⟩⟩]
theorem aw_ins : insC awS (slotS 16).e = ([⟨2, slotS 0⟩, ⟨1, slotS 8⟩, ⟨0, slotS 16⟩], 0) := by decide +kernel
theorem aw_kept : ordered (entsS awS) = true := by decide +kernel
theorem aw_ents : entsS awS = [(slotS 8).e, (slotS 0).e] := rfl
theorem aw_chain : chainE [(slotS 8).e, (slotS 0).e] = 2 := by
  have e2 : sortE [(slotS 8).e, (slotS 0).e] = [(slotS 8).e, (slotS 0).e] := (sortE_unique (List.Perm.refl _) (List.pairwise_cons.2 ⟨fun y hy => by rw [List.mem_singleton.1 hy]; decide +kernel, List.pairwise_singleton _ _⟩)).symm
  unfold chainE
  rw [e2]
  decide +kernel
attribute [local irreducible] OpH OpT LT CT HT Good
theorem arm18_1 {p : Prop} (h : p := by first | exact OpH.assign (v := .val _) rfl | exact OpH.assign (v := .sl _ _) rfl | exact OpH.assign (v := .row _ _ _ _) rfl | exact OpH.assign (v := .full _ _) rfl | exact OpH.assign (v := .ptr _ _) rfl | exact OpH.assign (v := .cptr _) rfl | exact OpH.assign (v := .cloB _ _) rfl | exact OpH.assign (v := .clo _ _) rfl | exact OpH.assign (v := .pr _) rfl | exact OpH.assign (v := .arow _) rfl | exact OpH.assign (v := .aptr _ _ _ _) rfl | exact OpH.assign (v := .asub _ _ _ _) rfl | exact OpH.assign (v := .tup _) rfl | exact build_66_  | exact OpH.build (t := 66) (cells := #[_, _, _, _, _, _, _]) (by kernel_rfl) rfl | exact lit_32_3 rfl rfl rfl | exact OpH.move (v := .val _) rfl | exact OpH.move (v := .sl _ _) rfl | exact OpH.move (v := .row _ _ _ _) rfl | exact OpH.move (v := .full _ _) rfl | exact OpH.move (v := .ptr _ _) rfl | exact OpH.move (v := .cptr _) rfl | exact OpH.move (v := .cloB _ _) rfl | exact OpH.move (v := .clo _ _) rfl | exact OpH.move (v := .pr _) rfl | exact OpH.move (v := .arow _) rfl | exact OpH.move (v := .aptr _ _ _ _) rfl | exact OpH.move (v := .asub _ _ _ _) rfl | exact OpH.move (v := .tup _) rfl | exact OpH.field (xt := 66) (f := 1) rfl field_66_1 | exact OpH.extract (v := .val _) rfl rfl (fun _ h => by cases h) | exact OpH.extract (v := .sl _ _) rfl rfl (fun _ h => by cases h) | exact OpH.extract (v := .row _ _ _ _) rfl rfl (fun _ h => by cases h) | exact OpH.extract (v := .full _ _) rfl rfl (fun _ h => by cases h) | exact OpH.bin rfl rfl (pb_eql_t (by first | omega | assumption)) | exact OpH.bin rfl rfl (pb_eql_f (by first | omega | assumption)) | exact OpH.bin rfl rfl (pb_eql) | exact OpH.lenM (t := 39) rfl (.sl _ _) (by kernel_rfl) | exact OpH.lenM (t := 39) rfl (.row _ _ _ _) (by kernel_rfl) | exact OpH.lenM (t := 39) rfl (.full _ _) (by kernel_rfl) | exact OpH.len (t := 39) rfl slP (by kernel_rfl) | exact OpH.lenNil (t := 39) rfl (by kernel_rfl) | exact OpH.pick (b := true) (v := .val _) rfl rfl | exact OpH.pick (b := false) (v := .val _) rfl rfl | exact OpH.pick (b := true) (v := .sl _ _) rfl rfl | exact OpH.pick (b := false) (v := .sl _ _) rfl rfl | exact OpH.pick (b := true) (v := .row _ _ _ _) rfl rfl | exact OpH.pick (b := false) (v := .row _ _ _ _) rfl rfl | exact OpH.pick (b := true) (v := .full _ _) rfl rfl | exact OpH.pick (b := false) (v := .full _ _) rfl rfl | exact OpH.pickV rfl rfl rfl | exact OpH.indexS (t := 39) (k := 8) (j := 0) rfl slP rfl rfl (by kernel_rfl) (map_at bd) rfl | exact loadC8 (t := 69) rfl (by kernel_rfl) | exact loadB8 (t := 69) rfl rfl (by kernel_rfl) rfl | exact build_69_0_1 rfl rfl | exact OpH.build (t := 69) (cells := #[_, _, _, _, _, _, _, _]) (by kernel_rfl) rfl | exact OpH.bin rfl rfl (pb_of (pb_agg eqg_69 (eql_69 _ _ _ _ _ _ _ _ _ _ _ _ _ _ _ _)) (same_t (by first | rfl | assumption))) | exact OpH.bin rfl rfl (pb_of (pb_agg eqg_69 (eql_69 _ _ _ _ _ _ _ _ _ _ _ _ _ _ _ _)) (same_f (by assumption))) | exact OpH.bin rfl rfl (pb_agg eqg_69 (eql_69 _ _ _ _ _ _ _ _ _ _ _ _ _ _ _ _)) | exact OpH.indexS (t := 39) (k := 8) (j := 1) rfl slP rfl rfl (by kernel_rfl) (map_at bd) rfl | exact OpH.indexS (t := 39) (k := 8) (j := 2) rfl slP rfl rfl (by kernel_rfl) (map_at bd) rfl) : p := h
set_option maxRecDepth 100000 in
set_option maxHeartbeats 4000000 in
theorem g_awake13 : Good Try.prog 18 [] (.val (.bool true)) := by
  have g8 := g_slot 8
  have g0 := g_slot 0
  have g16 := g_slot 16
  have gI := g_cInsert awS (slotS 16).e (by decide)
  rw [aw_ins] at gI
  have gK := g_cKept awS (by decide)
  rw [aw_kept] at gK
  have gE := g_Entries awS (by decide)
  rw [aw_ents] at gE
  have gC := g_Chain [(slotS 8).e, (slotS 0).e] (by simp)
  rw [aw_chain] at gC
  unfold awS at gI gK gE
  generalize slotS 8 = s8 at *
  generalize slotS 0 = s0 at *
  generalize slotS 16 = s16 at *
  refine Good.of_body (T := []) Try.func18 rfl rfl rfl ?_
  intro K0 w0 hno
  repeat' (first | refine CT.seqR ?_ | refine CT.seqD (id := 3) 41 (by kernel_rfl) (by kernel_rfl) ?_ | refine CT.draw (id := 3) 41 (by kernel_rfl) (by kernel_rfl) ?_ | refine CT.region ?_ | refine CT.seq1 ?_ | refine CT.block ?_ | refine CT.condT rfl ?_ | refine CT.condF rfl ?_ | refine CT.condD rfl (fun _ => ?_) (fun _ => ?_) | refine CT.condN rfl (fun _ => ?_) (fun _ => ?_) | refine CT.cond rfl (fun _ => ?_) (fun _ => ?_) | refine CT.skip ?_ | refine CT.exit ?_ | refine CT.ret ?_ | refine CT.goto ?_ | refine CT.label ?_ | refine LT.nil ?_ | refine HT.nil1 ?_ | ((first | apply LT.cons1 | (apply LT.guard1; rfl; rfl; rfl; decide)); (first | exact OpH.callF Try.func64 rfl rfl rfl g8 rfl | exact OpH.callF Try.func64 rfl rfl rfl g0 rfl | exact OpH.callF Try.func64 rfl rfl rfl g16 rfl | exact OpH.callF Try.func20 rfl rfl rfl gI rfl | exact OpH.callF Try.func29 rfl rfl rfl gK rfl | exact OpH.callFW Try.func31 rfl rfl rfl gE | exact OpH.callF Try.func65 rfl rfl rfl gC rfl | exact arm18_1); decide) | refine LT.skip1 rfl rfl rfl (by decide) (by decide) ?_ | refine LT.skip2 rfl rfl (by decide) (by decide) ?_ | refine LT.partD rfl rfl (fun _ => ?_) (fun _ => ?_) | refine LT.partN rfl rfl (fun _ => ?_) (fun _ => ?_) | (refine LT.part1 rfl rfl (fun h => ?_) (fun h => ?_); (fail_if_success exact absurd h (by decide)); rotate_left; (fail_if_success exact absurd h (by decide)); rotate_left) | ((first | apply HT.cons1 | (apply HT.guard1; rfl; rfl; rfl)); (first | exact OpH.callF Try.func64 rfl rfl rfl g8 rfl | exact OpH.callF Try.func64 rfl rfl rfl g0 rfl | exact OpH.callF Try.func64 rfl rfl rfl g16 rfl | exact OpH.callF Try.func20 rfl rfl rfl gI rfl | exact OpH.callF Try.func29 rfl rfl rfl gK rfl | exact OpH.callFW Try.func31 rfl rfl rfl gE | exact OpH.callF Try.func65 rfl rfl rfl gC rfl | exact arm18_1)) | refine HT.skip1 rfl rfl rfl ?_ | refine HT.skip2 rfl rfl ?_ | refine HT.partD rfl rfl (fun _ => ?_) (fun _ => ?_) | refine HT.partN rfl rfl (fun _ => ?_) (fun _ => ?_) | (refine HT.part1 rfl rfl (fun h => ?_) (fun h => ?_); (fail_if_success exact absurd h (by decide)); rotate_left; (fail_if_success exact absurd h (by decide)); rotate_left))
  refine ⟨by first | exact .inl rfl | exact .inr rfl, _, (.cons (.tmp 0 (A := .val _) rfl (fun _ h => by cases h)) .nil), ?_, rfl⟩
  rfl
end Go.Proofs.Ytnklfbeiagkhiaa

/- slices.Clone at slots; bank.May, bank.Apply of one write. -/
namespace Go.Proofs.Ytnklfbeiagkhiaa
set_option linter.unusedSimpArgs false
set_option linter.unusedVariables false
open Go Go.RowKit Go.Shelf
theorem lenS (x : Slt) : (encS x).length = 7 := rfl
theorem oneS (x : Slt) : ∀ u ∈ encS x, u.oneCell' = true := by
  intro u hu
  simp only [encS, List.mem_cons, List.not_mem_nil, or_false] at hu
  rcases hu with rfl | rfl | rfl | rfl | rfl | rfl | rfl <;> rfl
end Go.Proofs.Ytnklfbeiagkhiaa
namespace Go.Proofs.Ytnklfbeiagkhiaa
set_option linter.unusedSimpArgs false
set_option linter.unusedVariables false
open Go.RowKit
attribute [local go_sem high] eql_25 neq_25 eql_24 neq_24 eql_34 neq_34 eql_47 neq_47 eql_36 neq_36 eql_49 neq_49 eql_98 neq_98 eql_146 neq_146 eql_108 neq_108 eql_148 neq_148 eql_66 neq_66 eql_113 neq_113 eql_69 neq_69 eql_127 neq_127 eql_74 neq_74 eql_78 neq_78
attribute [local go_sem ↓ high] yielded_undef
attribute [local go_sem] eqg_25 eqg_24 eqg_34 eqg_47 eqg_36 eqg_49 eqg_98 eqg_146 eqg_108 eqg_148 eqg_66 eqg_113 eqg_69 eqg_127 eqg_74 eqg_78 cell_grew frozen_grew size_grew grew_grew drewN_grew lt_addk size_setW Instr.field asAgg lt_gi_k lt_gi_kh lt_gi_k_k lt_gi_k_kh lt_gi_k_k_k lt_gi_k_k_kh lt_gi_i_k lt_gi_i_kh lt_gi_i_k_k lt_gi_i_k_kh lt_gi_i_k_k_k lt_gi_i_k_k_kh lt_gi_i_i_k lt_gi_i_i_kh lt_gi_i_i_k_k lt_gi_i_i_k_kh lt_gi_i_i_k_k_k lt_gi_i_i_k_k_kh lt_gi_i_i_i_k lt_gi_i_i_i_kh lt_gi_i_i_i_k_k lt_gi_i_i_i_k_kh lt_gi_i_i_i_k_k_k lt_gi_i_i_i_k_k_kh lt_gi_i_i_i_i_k lt_gi_i_i_i_i_kh lt_gi_i_i_i_i_k_k lt_gi_i_i_i_i_k_kh lt_gi_i_i_i_i_k_k_k lt_gi_i_i_i_i_k_k_kh lt_gi_i_i_i_i_i_k lt_gi_i_i_i_i_i_kh lt_gi_i_i_i_i_i_k_k lt_gi_i_i_i_i_i_k_kh lt_gi_i_i_i_i_i_k_k_k lt_gi_i_i_i_i_i_k_k_kh lt_gi_i_i_i_i_i_i_k lt_gi_i_i_i_i_i_i_kh lt_gi_i_i_i_i_i_i_k_k lt_gi_i_i_i_i_i_i_k_kh lt_gi_i_i_i_i_i_i_k_k_k lt_gi_i_i_i_i_i_i_k_k_kh lt_gi_i_i_i_i_i_i_i_k lt_gi_i_i_i_i_i_i_i_kh lt_gi_i_i_i_i_i_i_i_k_k lt_gi_i_i_i_i_i_i_i_k_kh lt_gi_i_i_i_i_i_i_i_k_k_k lt_gi_i_i_i_i_i_i_i_k_k_kh lt_gi_k_i lt_gi_k_ih lt_gi_k_i_k lt_gi_k_i_kh lt_gi_k_k_i lt_gi_k_k_ih lt_gi_k_k_i_k lt_gi_k_k_i_kh lt_gi_k_i_i lt_gi_k_i_ih lt_gi_k_i_i_k lt_gi_k_i_i_kh lt_gi_k_k_i_i lt_gi_k_k_i_ih lt_gi_k_k_i_i_k lt_gi_k_k_i_i_kh lt_gi_k_i_i_i lt_gi_k_i_i_ih lt_gi_k_i_i_i_k lt_gi_k_i_i_i_kh lt_gi_k_k_i_i_i lt_gi_k_k_i_i_ih lt_gi_k_k_i_i_i_k lt_gi_k_k_i_i_i_kh lt_gi_i_k_i lt_gi_i_k_ih lt_gi_i_k_i_k lt_gi_i_k_i_kh lt_gi_i_k_k_i lt_gi_i_k_k_ih lt_gi_i_k_k_i_k lt_gi_i_k_k_i_kh lt_gi_i_k_i_i lt_gi_i_k_i_ih lt_gi_i_k_i_i_k lt_gi_i_k_i_i_kh lt_gi_i_k_k_i_i lt_gi_i_k_k_i_ih lt_gi_i_k_k_i_i_k lt_gi_i_k_k_i_i_kh lt_gi_i_k_i_i_i lt_gi_i_k_i_i_ih lt_gi_i_k_i_i_i_k lt_gi_i_k_i_i_i_kh lt_gi_i_k_k_i_i_i lt_gi_i_k_k_i_i_ih lt_gi_i_k_k_i_i_i_k lt_gi_i_k_k_i_i_i_kh lt_gi_i_i_k_i lt_gi_i_i_k_ih lt_gi_i_i_k_i_k lt_gi_i_i_k_i_kh lt_gi_i_i_k_k_i lt_gi_i_i_k_k_ih lt_gi_i_i_k_k_i_k lt_gi_i_i_k_k_i_kh lt_gi_i_i_k_i_i lt_gi_i_i_k_i_ih lt_gi_i_i_k_i_i_k lt_gi_i_i_k_i_i_kh lt_gi_i_i_k_k_i_i lt_gi_i_i_k_k_i_ih lt_gi_i_i_k_k_i_i_k lt_gi_i_i_k_k_i_i_kh lt_gi_i_i_k_i_i_i lt_gi_i_i_k_i_i_ih lt_gi_i_i_k_i_i_i_k lt_gi_i_i_k_i_i_i_kh lt_gi_i_i_k_k_i_i_i lt_gi_i_i_k_k_i_i_ih lt_gi_i_i_k_k_i_i_i_k lt_gi_i_i_k_k_i_i_i_kh lt_gi_i_i_i_k_i lt_gi_i_i_i_k_ih lt_gi_i_i_i_k_i_k lt_gi_i_i_i_k_i_kh lt_gi_i_i_i_k_k_i lt_gi_i_i_i_k_k_ih lt_gi_i_i_i_k_k_i_k lt_gi_i_i_i_k_k_i_kh lt_gi_i_i_i_k_i_i lt_gi_i_i_i_k_i_ih lt_gi_i_i_i_k_i_i_k lt_gi_i_i_i_k_i_i_kh lt_gi_i_i_i_k_k_i_i lt_gi_i_i_i_k_k_i_ih lt_gi_i_i_i_k_k_i_i_k lt_gi_i_i_i_k_k_i_i_kh lt_gi_i_i_i_k_i_i_i lt_gi_i_i_i_k_i_i_ih lt_gi_i_i_i_k_i_i_i_k lt_gi_i_i_i_k_i_i_i_kh lt_gi_i_i_i_k_k_i_i_i lt_gi_i_i_i_k_k_i_i_ih lt_gi_i_i_i_k_k_i_i_i_k lt_gi_i_i_i_k_k_i_i_i_kh lt_gi_i_i_i_i_k_i lt_gi_i_i_i_i_k_ih lt_gi_i_i_i_i_k_i_k lt_gi_i_i_i_i_k_i_kh lt_gi_i_i_i_i_k_k_i lt_gi_i_i_i_i_k_k_ih lt_gi_i_i_i_i_k_k_i_k lt_gi_i_i_i_i_k_k_i_kh lt_gi_i_i_i_i_k_i_i lt_gi_i_i_i_i_k_i_ih lt_gi_i_i_i_i_k_i_i_k lt_gi_i_i_i_i_k_i_i_kh lt_gi_i_i_i_i_k_k_i_i lt_gi_i_i_i_i_k_k_i_ih lt_gi_i_i_i_i_k_k_i_i_k lt_gi_i_i_i_i_k_k_i_i_kh lt_gi_i_i_i_i_k_i_i_i lt_gi_i_i_i_i_k_i_i_ih lt_gi_i_i_i_i_k_i_i_i_k lt_gi_i_i_i_i_k_i_i_i_kh lt_gi_i_i_i_i_k_k_i_i_i lt_gi_i_i_i_i_k_k_i_i_ih lt_gi_i_i_i_i_k_k_i_i_i_k lt_gi_i_i_i_i_k_k_i_i_i_kh
end Go.Proofs.Ytnklfbeiagkhiaa
namespace Go.Proofs.Ytnklfbeiagkhiaa
set_option linter.unusedSimpArgs false
set_option linter.unusedVariables false
open Go Go.RowKit Go.Shelf
attribute [local irreducible] OpH OpT LT CT HT Good
end Go.Proofs.Ytnklfbeiagkhiaa
