/- MergeSays: the walk. -/
import Derived.Test.YtjibochjmmehcaaYBuild
import Derived.Test.YtjibochjmmehcaaYKeepT
import Derived.Test.YtjibochjmmehcaaYWalkR5
import Derived.Test.YtjibochjmmehcaaYOpen
namespace Go.Proofs.Ytjibochjmmehcaa
set_option linter.unusedSimpArgs false
set_option linter.unusedVariables false
open Go Go.RowKit Go.Shelf
theorem ordered_sorted (xs : List Ent) : ordered (sortE xs) = true := by
  unfold ordered
  rw [ordTo_iff _ _ (Nat.le_refl _)]
  intro k hk i hi
  have hp := sortE_pairwise xs
  rw [List.pairwise_iff_getElem] at hp
  have h := hp i k (by omega) hk hi
  rw [nth_at _ hk, nth_at _ (by omega : i < (sortE xs).length)]
  unfold eLe at h
  simp only [decide_eq_true_eq] at h
  have hl : (sortE xs)[k].len ≤ (sortE xs)[i].len := by
    rw [eCmp_lex] at h
    unfold lexKey at h
    rcases h with h | ⟨h, _⟩ <;> omega
  unfold eAbove
  rw [decide_eq_false (by omega), Bool.false_and]
theorem buildE_ordered (rs : List Rte) (mode : Int) : ordered (buildE rs mode) = true := by
  have e : buildE rs mode = sortE (buildE rs mode) := by
    unfold buildE
    split
    · rw [sortE_sortE]
    · split
      · rw [sortE_sortE]
      · rw [mergeE_sorted]
  rw [e]
  exact ordered_sorted _
theorem g_rOrdered (xs : List Ent) (hok : ∀ x ∈ xs, x.w.ok) : Good Try.prog 26 [.sl 6 (xs.map encE)] (.val (.bool (ordered xs))) := by
  rw [← rOrdered_ordered xs hok]
  exact Good.sl1 (args := []) posE rfl fun A c w _ _ h => c_rOrdered A c xs hok w h
theorem Good.toSl {P : Program} {f : FuncId} {As : List AV} {r e k : Nat} {xs : Cells} (hg : Good P f As (.row r e k xs)) : Good P f As (.sl k xs) := by
  intro K w cargs hok hlen hrep
  refine (hg K w cargs hok hlen hrep).mono ?_
  rintro e' w' ⟨c, K', rfl, h1, h2, h3, h4, ρ, h5, _⟩
  exact ⟨c, K', rfl, h1, h2, h3, h4, ρ, h5.2, fun r e k xs h => (by rcases h with h | ⟨_, h, _⟩ <;> cases h), fun r e k xs r' e' k' xs' g h => (by rcases h with h | ⟨_, h, _⟩ <;> cases h)⟩
attribute [local irreducible] OpH OpT LT CT HT Good
noncomputable def manyL (rs : List Rte) : Nat → Nat
  | 0 => rs.length
  | k + 1 => (buildE rs k).length
theorem arm9_1 {p : Prop} (h : p := by first | exact OpH.assign (v := .val _) rfl | exact OpH.assign (v := .sl _ _) rfl | exact OpH.assign (v := .row _ _ _ _) rfl | exact OpH.assign (v := .full _ _) rfl | exact OpH.assign (v := .ptr _ _) rfl | exact OpH.assign (v := .cptr _) rfl | exact OpH.assign (v := .cloB _ _) rfl | exact OpH.assign (v := .clo _ _) rfl | exact OpH.assign (v := .pr _) rfl | exact OpH.assign (v := .arow _) rfl | exact OpH.assign (v := .aptr _ _ _ _) rfl | exact OpH.assign (v := .asub _ _ _ _) rfl | exact OpH.assign (v := .tup _) rfl | exact OpH.move (v := .val _) rfl | exact OpH.move (v := .sl _ _) rfl | exact OpH.move (v := .row _ _ _ _) rfl | exact OpH.move (v := .full _ _) rfl | exact OpH.move (v := .ptr _ _) rfl | exact OpH.move (v := .cptr _) rfl | exact OpH.move (v := .cloB _ _) rfl | exact OpH.move (v := .clo _ _) rfl | exact OpH.move (v := .pr _) rfl | exact OpH.move (v := .arow _) rfl | exact OpH.move (v := .aptr _ _ _ _) rfl | exact OpH.move (v := .asub _ _ _ _) rfl | exact OpH.move (v := .tup _) rfl | exact OpH.un rfl un_not | exact OpH.un rfl (un_neg (by omega)) | exact OpH.lenM (t := 31) rfl (.sl _ _) (by kernel_rfl) | exact OpH.lenM (t := 31) rfl (.row _ _ _ _) (by kernel_rfl) | exact OpH.lenM (t := 31) rfl (.full _ _) (by kernel_rfl) | exact OpH.len (t := 31) rfl slP (by kernel_rfl) | exact OpH.lenNil (t := 31) rfl (by kernel_rfl) | exact OpH.bin rfl rfl (pb_gtr_t (by omega)) | exact OpH.bin rfl rfl (pb_gtr_f (by omega)) | exact OpH.bin rfl rfl (pb_gtr) | exact OpH.pick (b := true) (v := .val _) rfl rfl | exact OpH.pick (b := false) (v := .val _) rfl rfl | exact OpH.pick (b := true) (v := .sl _ _) rfl rfl | exact OpH.pick (b := false) (v := .sl _ _) rfl rfl | exact OpH.pick (b := true) (v := .row _ _ _ _) rfl rfl | exact OpH.pick (b := false) (v := .row _ _ _ _) rfl rfl | exact OpH.pick (b := true) (v := .full _ _) rfl rfl | exact OpH.pick (b := false) (v := .full _ _) rfl rfl | exact OpH.pickV rfl rfl rfl | exact OpH.callF Try.func10 rfl rfl rfl (g_awake10) rfl | exact loadC2 (t := 41) rfl (by kernel_rfl) | exact loadB2 (t := 41) rfl rfl (by kernel_rfl) rfl | exact OpH.bin rfl rfl (pb_lss_t (by omega)) | exact OpH.bin rfl rfl (pb_lss_f (by omega)) | exact OpH.bin rfl rfl (pb_lss) | exact OpH.callFW Try.func11 rfl rfl rfl ((g_law5Of _ (by first | omega | (simp; omega) | simp))) | exact OpH.callF Try.func23 rfl rfl rfl ((g_Tell _ _ _)) rfl | exact OpH.bin rfl rfl (pb_neq_t (by first | omega | assumption)) | exact OpH.bin rfl rfl (pb_neq_f (by first | omega | assumption)) | exact OpH.bin rfl rfl (pb_neq) | exact OpH.lenM (t := 22) rfl (.sl _ _) (by kernel_rfl) | exact OpH.lenM (t := 22) rfl (.row _ _ _ _) (by kernel_rfl) | exact OpH.lenM (t := 22) rfl (.full _ _) (by kernel_rfl) | exact OpH.len (t := 22) rfl slP (by kernel_rfl) | exact OpH.lenNil (t := 22) rfl (by kernel_rfl) | exact OpH.bin rfl rfl (pb_inc (by omega)) | exact OpH.bin rfl rfl (pb_addN rfl (by omega)) | exact OpH.bin rfl rfl (pb_add (by omega)) | exact OpH.bin rfl rfl (pb_addw)) : p := h
set_option maxRecDepth 100000 in
set_option maxHeartbeats 4000000 in
theorem g_MergeSays (rs : List Rte) (a : A2) (ha : a.ok) (hok : ∀ r ∈ rs, r.p.a.ok) (hl : rs.length ≤ 9223372036854775807) : Good Try.prog 9 [.sl 4 (rs.map encR), .val (.agg #[.int .u64 a.x, .int .u64 a.y])] (.val (.bool true)) := by
  have gA := g_awake10
  by_cases hT : TableR rs ∧ rs.length ≤ 24
  · have gT := g_law9Table rs true (by simp [hT]) hok hl
    by_cases hm : rs.length ≤ 12
    · have gO := g_law6Of rs (by omega)
      have gW := g_r6Tell rs a hok ha (by omega)
      have hlen := buildE_len hT.1
      have hsay := fun mode => buildE_says hT.1 ha mode
      have hmany : ∀ k, k ≤ 3 → manyL rs k ≤ 12 := fun k hk => by
        have h1 := hlen.1; have h2 := hlen.2.1; have h3 := hlen.2.2
        have hc : k = 0 ∨ k = 1 ∨ k = 2 ∨ k = 3 := by omega
        rcases hc with rfl | rfl | rfl | rfl
        · exact hm
        · exact Nat.le_trans (Nat.le_of_eq h1) hm
        · exact Nat.le_trans h2 (Nat.le_trans (Nat.le_of_eq h1) hm)
        · exact Nat.le_trans h3 (Nat.le_trans h2 (Nat.le_trans (Nat.le_of_eq h1) hm))
      obtain ⟨want, hwant⟩ : ∃ t, tellR rs a = t := ⟨_, rfl⟩
      rw [hwant] at gW
      refine Good.of_body (T := [(0, _), (1, _)]) Try.func9 rfl rfl rfl ?_
      intro K0 w0 hno
      repeat' (first | refine CT.seqR ?_ | refine CT.seqD (id := 3) 4 (by kernel_rfl) (by kernel_rfl) ?_ | refine CT.draw (id := 3) 4 (by kernel_rfl) (by kernel_rfl) ?_ | refine CT.region ?_ | refine CT.seq1 ?_ | refine CT.block ?_ | refine CT.condT rfl ?_ | refine CT.condF rfl ?_ | refine CT.condD rfl (fun _ => ?_) (fun _ => ?_) | refine CT.condN rfl (fun _ => ?_) (fun _ => ?_) | refine CT.cond rfl (fun _ => ?_) (fun _ => ?_) | refine CT.skip ?_ | refine CT.exit ?_ | refine CT.ret ?_ | refine CT.goto ?_ | refine CT.label ?_ | refine LT.nil ?_ | refine HT.nil1 ?_ | (refine LT.consT ?_; (first | refine T.box (e := 41) (cs := [.val _, .val _]) rfl rfl (by decide) rfl rfl ?_ | refine T.callRow Try.func11 rfl rfl rfl ((g_law5Of _ (by first | omega | (simp; omega) | simp))) (by decide) rfl ?_)) | (apply LT.cons1; (first | exact OpH.callF Try.func17 rfl rfl rfl gT rfl | exact OpH.callFW Try.func20 rfl rfl rfl gO | exact OpH.callF Try.func25 rfl rfl rfl gW rfl | exact arm9_1); decide) | (apply LT.guard1; rfl; rfl; rfl; decide; (first | exact OpH.callF Try.func17 rfl rfl rfl gT rfl | exact OpH.callFW Try.func20 rfl rfl rfl gO | exact OpH.callF Try.func25 rfl rfl rfl gW rfl | exact arm9_1); decide) | refine LT.skip1 rfl rfl rfl (by decide) (by decide) ?_ | refine LT.skip2 rfl rfl (by decide) (by decide) ?_ | refine LT.partD rfl rfl (fun _ => ?_) (fun _ => ?_) | refine LT.partN rfl rfl (fun _ => ?_) (fun _ => ?_) | (refine LT.part1 rfl rfl (fun h => ?_) (fun h => ?_); (fail_if_success exact absurd h (by decide)); rotate_left; (fail_if_success exact absurd h (by decide)); rotate_left) | (apply HT.cons1; (first | exact OpH.callF Try.func17 rfl rfl rfl gT rfl | exact OpH.callFW Try.func20 rfl rfl rfl gO | exact OpH.callF Try.func25 rfl rfl rfl gW rfl | exact arm9_1)) | (apply HT.guard1; rfl; rfl; rfl; (first | exact OpH.callF Try.func17 rfl rfl rfl gT rfl | exact OpH.callFW Try.func20 rfl rfl rfl gO | exact OpH.callF Try.func25 rfl rfl rfl gW rfl | exact arm9_1)) | refine HT.skip1 rfl rfl rfl ?_ | refine HT.skip2 rfl rfl ?_ | refine HT.partD rfl rfl (fun _ => ?_) (fun _ => ?_) | refine HT.partN rfl rfl (fun _ => ?_) (fun _ => ?_) | (refine HT.part1 rfl rfl (fun h => ?_) (fun h => ?_); (fail_if_success exact absurd h (by decide)); rotate_left; (fail_if_success exact absurd h (by decide)); rotate_left))
      refine CT.loopX (fun k : Nat => (⟨[(0, .sl 4 (rs.map encR)), (3, .ptr 3 0), (5, .val (.int .i64 want)), (6, .val (.int .i64 (manyL rs k))), (24, .val (.int .i64 k))], [(3, [.val (.int .u64 a.x), .val (.int .u64 a.y)])], []⟩ : St))
        (fun k => k ≤ 3) (fun k => 3 - k) 0 ?_ (by omega) ?_
      · rw [show manyL rs 0 = rs.length from rfl]
        (apply Sub.mk; (focus (repeat (first | exact .nil | refine .other (.keep rfl rfl) ?_ | refine .other (.aref rfl rfl rfl) ?_ | refine .other (.val rfl (by first | rfl | (congr 1; first | omega | assumption | (symm; assumption)) | (simp; omega))) ?_ | refine .other .dead ?_ | refine .other (.sl rfl (.row _ _ _ _) rfl) ?_ | refine .other (.sl rfl (.sl _ _) rfl) ?_ | refine .other (.sl rfl (.full _ _) rfl) ?_ | refine .other (.slNil rfl rfl) ?_ | refine .rowNil rfl rfl rfl ?_ | refine .row rfl (by first | rfl | assumption | (rw [← List.map_append]; first | done | rfl | congr 1)) rfl rfl ?_))); (focus (repeat (first | exact .nil | refine KeepB.same rfl rfl rfl ?_ | refine KeepB.sameA rfl rfl rfl ?_))); (focus (repeat (first | exact .nil | refine KeepA.cons rfl (by first | rfl | assumption | exact List.map_set | exact List.map_set.symm | (rw [← List.map_append]; first | done | rfl | congr 1) | (congr 1; first | omega | assumption)) ?_))))
      rintro k hk
      by_cases hlt : k < 3
      · obtain ⟨s1, s2, s3⟩ := hsay k
        have s4 := buildE_ordered rs k
        have s5 : (buildE rs k).length ≤ manyL rs k := by
          have hc : k = 0 ∨ k = 1 ∨ k = 2 := by omega
          rcases hc with rfl | rfl | rfl
          · exact Nat.le_of_eq hlen.1
          · exact hlen.2.1
          · exact hlen.2.2
        have s6 : manyL rs (k + 1) = (buildE rs k).length := rfl
        have s7 := hmany k (by omega)
        have gB : Good Try.prog 18 [.sl 4 (rs.map encR), .val (.int .i64 k)] (.sl 6 ((buildE rs k).map encE)) := by
          have hc : k = 0 ∨ k = 1 ∨ k = 2 := by omega
          rcases hc with rfl | rfl | rfl
          · exact Good.toSl (g_Build0 rs hT.1 (by omega))
          · exact Good.toSl (g_Build1 rs hT.1 (by omega))
          · exact Good.toSl (g_Build2 rs hT.1 (by omega))
        rw [hwant] at s3
        generalize buildE rs k = bs at s1 s2 s3 s4 s5 s6 gB
        generalize manyL rs k = mk at s5 s7 ⊢
        have gL := g_law5Of bs (by omega)
        have gS := g_Simple bs true (by simp [s2]) s1 (by omega)
        have gR := g_rOrdered bs s1
        rw [s4] at gR
        have gE := g_Tell bs a.x a.y
        rw [show tell bs ⟨a.x, a.y⟩ = want from s3] at gE
        repeat' (first | refine CT.seqR ?_ | refine CT.seqD (id := 3) 4 (by kernel_rfl) (by kernel_rfl) ?_ | refine CT.draw (id := 3) 4 (by kernel_rfl) (by kernel_rfl) ?_ | refine CT.region ?_ | refine CT.seq1 ?_ | refine CT.block ?_ | refine CT.condT rfl ?_ | refine CT.condF rfl ?_ | refine CT.condD rfl (fun _ => ?_) (fun _ => ?_) | refine CT.condN rfl (fun _ => ?_) (fun _ => ?_) | refine CT.cond rfl (fun _ => ?_) (fun _ => ?_) | refine CT.skip ?_ | refine CT.exit ?_ | refine CT.ret ?_ | refine CT.goto ?_ | refine CT.label ?_ | refine LT.nil ?_ | refine HT.nil1 ?_ | (refine LT.consT ?_; (first | refine T.box (e := 41) (cs := [.val _, .val _]) rfl rfl (by decide) rfl rfl ?_ | refine T.callRow Try.func11 rfl rfl rfl ((g_law5Of _ (by first | omega | (simp; omega) | simp))) (by decide) rfl ?_)) | (apply LT.cons1; (first | exact OpH.callF Try.func18 rfl rfl rfl gB rfl | exact OpH.callFW Try.func11 rfl rfl rfl gL | exact OpH.callF Try.func16 rfl rfl rfl gS rfl | exact OpH.callF Try.func26 rfl rfl rfl gR rfl | exact OpH.callF Try.func23 rfl rfl rfl gE rfl | exact arm9_1); decide) | (apply LT.guard1; rfl; rfl; rfl; decide; (first | exact OpH.callF Try.func18 rfl rfl rfl gB rfl | exact OpH.callFW Try.func11 rfl rfl rfl gL | exact OpH.callF Try.func16 rfl rfl rfl gS rfl | exact OpH.callF Try.func26 rfl rfl rfl gR rfl | exact OpH.callF Try.func23 rfl rfl rfl gE rfl | exact arm9_1); decide) | refine LT.skip1 rfl rfl rfl (by decide) (by decide) ?_ | refine LT.skip2 rfl rfl (by decide) (by decide) ?_ | refine LT.partD rfl rfl (fun _ => ?_) (fun _ => ?_) | refine LT.partN rfl rfl (fun _ => ?_) (fun _ => ?_) | (refine LT.part1 rfl rfl (fun h => ?_) (fun h => ?_); (fail_if_success exact absurd h (by decide)); rotate_left; (fail_if_success exact absurd h (by decide)); rotate_left) | (apply HT.cons1; (first | exact OpH.callF Try.func18 rfl rfl rfl gB rfl | exact OpH.callFW Try.func11 rfl rfl rfl gL | exact OpH.callF Try.func16 rfl rfl rfl gS rfl | exact OpH.callF Try.func26 rfl rfl rfl gR rfl | exact OpH.callF Try.func23 rfl rfl rfl gE rfl | exact arm9_1)) | (apply HT.guard1; rfl; rfl; rfl; (first | exact OpH.callF Try.func18 rfl rfl rfl gB rfl | exact OpH.callFW Try.func11 rfl rfl rfl gL | exact OpH.callF Try.func16 rfl rfl rfl gS rfl | exact OpH.callF Try.func26 rfl rfl rfl gR rfl | exact OpH.callF Try.func23 rfl rfl rfl gE rfl | exact arm9_1)) | refine HT.skip1 rfl rfl rfl ?_ | refine HT.skip2 rfl rfl ?_ | refine HT.partD rfl rfl (fun _ => ?_) (fun _ => ?_) | refine HT.partN rfl rfl (fun _ => ?_) (fun _ => ?_) | (refine HT.part1 rfl rfl (fun h => ?_) (fun h => ?_); (fail_if_success exact absurd h (by decide)); rotate_left; (fail_if_success exact absurd h (by decide)); rotate_left))
        refine ⟨k + 1, by omega, by omega, ?_⟩
        rw [s6]
        (apply Sub.mk; (focus (repeat (first | exact .nil | refine .other (.keep rfl rfl) ?_ | refine .other (.aref rfl rfl rfl) ?_ | refine .other (.val rfl (by first | rfl | (congr 1; first | omega | assumption | (symm; assumption)) | (simp; omega))) ?_ | refine .other .dead ?_ | refine .other (.sl rfl (.row _ _ _ _) rfl) ?_ | refine .other (.sl rfl (.sl _ _) rfl) ?_ | refine .other (.sl rfl (.full _ _) rfl) ?_ | refine .other (.slNil rfl rfl) ?_ | refine .rowNil rfl rfl rfl ?_ | refine .row rfl (by first | rfl | assumption | (rw [← List.map_append]; first | done | rfl | congr 1)) rfl rfl ?_))); (focus (repeat (first | exact .nil | refine KeepB.same rfl rfl rfl ?_ | refine KeepB.sameA rfl rfl rfl ?_))); (focus (repeat (first | exact .nil | refine KeepA.cons rfl (by first | rfl | assumption | exact List.map_set | exact List.map_set.symm | (rw [← List.map_append]; first | done | rfl | congr 1) | (congr 1; first | omega | assumption)) ?_))))
      · obtain rfl : k = 3 := by omega
        repeat' (first | refine CT.seqR ?_ | refine CT.seqD (id := 3) 4 (by kernel_rfl) (by kernel_rfl) ?_ | refine CT.draw (id := 3) 4 (by kernel_rfl) (by kernel_rfl) ?_ | refine CT.region ?_ | refine CT.seq1 ?_ | refine CT.block ?_ | refine CT.condT rfl ?_ | refine CT.condF rfl ?_ | refine CT.condD rfl (fun _ => ?_) (fun _ => ?_) | refine CT.condN rfl (fun _ => ?_) (fun _ => ?_) | refine CT.cond rfl (fun _ => ?_) (fun _ => ?_) | refine CT.skip ?_ | refine CT.exit ?_ | refine CT.ret ?_ | refine CT.goto ?_ | refine CT.label ?_ | refine LT.nil ?_ | refine HT.nil1 ?_ | (refine LT.consT ?_; (first | refine T.box (e := 41) (cs := [.val _, .val _]) rfl rfl (by decide) rfl rfl ?_ | refine T.callRow Try.func11 rfl rfl rfl ((g_law5Of _ (by first | omega | (simp; omega) | simp))) (by decide) rfl ?_)) | (apply LT.cons1; (first | exact OpH.callF Try.func10 rfl rfl rfl gA rfl | exact arm9_1); decide) | (apply LT.guard1; rfl; rfl; rfl; decide; (first | exact OpH.callF Try.func10 rfl rfl rfl gA rfl | exact arm9_1); decide) | refine LT.skip1 rfl rfl rfl (by decide) (by decide) ?_ | refine LT.skip2 rfl rfl (by decide) (by decide) ?_ | refine LT.partD rfl rfl (fun _ => ?_) (fun _ => ?_) | refine LT.partN rfl rfl (fun _ => ?_) (fun _ => ?_) | (refine LT.part1 rfl rfl (fun h => ?_) (fun h => ?_); (fail_if_success exact absurd h (by decide)); rotate_left; (fail_if_success exact absurd h (by decide)); rotate_left) | (apply HT.cons1; (first | exact OpH.callF Try.func10 rfl rfl rfl gA rfl | exact arm9_1)) | (apply HT.guard1; rfl; rfl; rfl; (first | exact OpH.callF Try.func10 rfl rfl rfl gA rfl | exact arm9_1)) | refine HT.skip1 rfl rfl rfl ?_ | refine HT.skip2 rfl rfl ?_ | refine HT.partD rfl rfl (fun _ => ?_) (fun _ => ?_) | refine HT.partN rfl rfl (fun _ => ?_) (fun _ => ?_) | (refine HT.part1 rfl rfl (fun h => ?_) (fun h => ?_); (fail_if_success exact absurd h (by decide)); rotate_left; (fail_if_success exact absurd h (by decide)); rotate_left))
        refine ⟨by first | exact .inl rfl | exact .inr rfl, _, (.cons (.tmp 4 (A := .val _) rfl (fun _ h => by cases h)) .nil), ?_, rfl⟩
        rfl
    · refine Good.of_body (T := [(0, _), (1, _)]) Try.func9 rfl rfl rfl ?_
      intro K0 w0 hno
      repeat' (first | refine CT.seqR ?_ | refine CT.seqD (id := 3) 4 (by kernel_rfl) (by kernel_rfl) ?_ | refine CT.draw (id := 3) 4 (by kernel_rfl) (by kernel_rfl) ?_ | refine CT.region ?_ | refine CT.seq1 ?_ | refine CT.block ?_ | refine CT.condT rfl ?_ | refine CT.condF rfl ?_ | refine CT.condD rfl (fun _ => ?_) (fun _ => ?_) | refine CT.condN rfl (fun _ => ?_) (fun _ => ?_) | refine CT.cond rfl (fun _ => ?_) (fun _ => ?_) | refine CT.skip ?_ | refine CT.exit ?_ | refine CT.ret ?_ | refine CT.goto ?_ | refine CT.label ?_ | refine LT.nil ?_ | refine HT.nil1 ?_ | (refine LT.consT ?_; (first | refine T.box (e := 41) (cs := [.val _, .val _]) rfl rfl (by decide) rfl rfl ?_ | refine T.callRow Try.func11 rfl rfl rfl ((g_law5Of _ (by first | omega | (simp; omega) | simp))) (by decide) rfl ?_)) | (apply LT.cons1; (first | exact OpH.callF Try.func17 rfl rfl rfl gT rfl | exact OpH.callF Try.func10 rfl rfl rfl gA rfl | exact arm9_1); decide) | (apply LT.guard1; rfl; rfl; rfl; decide; (first | exact OpH.callF Try.func17 rfl rfl rfl gT rfl | exact OpH.callF Try.func10 rfl rfl rfl gA rfl | exact arm9_1); decide) | refine LT.skip1 rfl rfl rfl (by decide) (by decide) ?_ | refine LT.skip2 rfl rfl (by decide) (by decide) ?_ | refine LT.partD rfl rfl (fun _ => ?_) (fun _ => ?_) | refine LT.partN rfl rfl (fun _ => ?_) (fun _ => ?_) | (refine LT.part1 rfl rfl (fun h => ?_) (fun h => ?_); (fail_if_success exact absurd h (by decide)); rotate_left; (fail_if_success exact absurd h (by decide)); rotate_left) | (apply HT.cons1; (first | exact OpH.callF Try.func17 rfl rfl rfl gT rfl | exact OpH.callF Try.func10 rfl rfl rfl gA rfl | exact arm9_1)) | (apply HT.guard1; rfl; rfl; rfl; (first | exact OpH.callF Try.func17 rfl rfl rfl gT rfl | exact OpH.callF Try.func10 rfl rfl rfl gA rfl | exact arm9_1)) | refine HT.skip1 rfl rfl rfl ?_ | refine HT.skip2 rfl rfl ?_ | refine HT.partD rfl rfl (fun _ => ?_) (fun _ => ?_) | refine HT.partN rfl rfl (fun _ => ?_) (fun _ => ?_) | (refine HT.part1 rfl rfl (fun h => ?_) (fun h => ?_); (fail_if_success exact absurd h (by decide)); rotate_left; (fail_if_success exact absurd h (by decide)); rotate_left))
      refine ⟨by first | exact .inl rfl | exact .inr rfl, _, (.cons (.tmp 4 (A := .val _) rfl (fun _ h => by cases h)) .nil), ?_, rfl⟩
      rfl
  · have gT := g_law9Table rs false (by simp [hT]) hok hl
    refine Good.of_body (T := [(0, _), (1, _)]) Try.func9 rfl rfl rfl ?_
    intro K0 w0 hno
    repeat' (first | refine CT.seqR ?_ | refine CT.seqD (id := 3) 4 (by kernel_rfl) (by kernel_rfl) ?_ | refine CT.draw (id := 3) 4 (by kernel_rfl) (by kernel_rfl) ?_ | refine CT.region ?_ | refine CT.seq1 ?_ | refine CT.block ?_ | refine CT.condT rfl ?_ | refine CT.condF rfl ?_ | refine CT.condD rfl (fun _ => ?_) (fun _ => ?_) | refine CT.condN rfl (fun _ => ?_) (fun _ => ?_) | refine CT.cond rfl (fun _ => ?_) (fun _ => ?_) | refine CT.skip ?_ | refine CT.exit ?_ | refine CT.ret ?_ | refine CT.goto ?_ | refine CT.label ?_ | refine LT.nil ?_ | refine HT.nil1 ?_ | (refine LT.consT ?_; (first | refine T.box (e := 41) (cs := [.val _, .val _]) rfl rfl (by decide) rfl rfl ?_ | refine T.callRow Try.func11 rfl rfl rfl ((g_law5Of _ (by first | omega | (simp; omega) | simp))) (by decide) rfl ?_)) | (apply LT.cons1; (first | exact OpH.callF Try.func17 rfl rfl rfl gT rfl | exact OpH.callF Try.func10 rfl rfl rfl gA rfl | exact arm9_1); decide) | (apply LT.guard1; rfl; rfl; rfl; decide; (first | exact OpH.callF Try.func17 rfl rfl rfl gT rfl | exact OpH.callF Try.func10 rfl rfl rfl gA rfl | exact arm9_1); decide) | refine LT.skip1 rfl rfl rfl (by decide) (by decide) ?_ | refine LT.skip2 rfl rfl (by decide) (by decide) ?_ | refine LT.partD rfl rfl (fun _ => ?_) (fun _ => ?_) | refine LT.partN rfl rfl (fun _ => ?_) (fun _ => ?_) | (refine LT.part1 rfl rfl (fun h => ?_) (fun h => ?_); (fail_if_success exact absurd h (by decide)); rotate_left; (fail_if_success exact absurd h (by decide)); rotate_left) | (apply HT.cons1; (first | exact OpH.callF Try.func17 rfl rfl rfl gT rfl | exact OpH.callF Try.func10 rfl rfl rfl gA rfl | exact arm9_1)) | (apply HT.guard1; rfl; rfl; rfl; (first | exact OpH.callF Try.func17 rfl rfl rfl gT rfl | exact OpH.callF Try.func10 rfl rfl rfl gA rfl | exact arm9_1)) | refine HT.skip1 rfl rfl rfl ?_ | refine HT.skip2 rfl rfl ?_ | refine HT.partD rfl rfl (fun _ => ?_) (fun _ => ?_) | refine HT.partN rfl rfl (fun _ => ?_) (fun _ => ?_) | (refine HT.part1 rfl rfl (fun h => ?_) (fun h => ?_); (fail_if_success exact absurd h (by decide)); rotate_left; (fail_if_success exact absurd h (by decide)); rotate_left))
    refine ⟨by first | exact .inl rfl | exact .inr rfl, _, (.cons (.tmp 4 (A := .val _) rfl (fun _ h => by cases h)) .nil), ?_, rfl⟩
    rfl
theorem w_MergeSays (A : Option Addr) (c : Nat) (rs : List Rte) (a : A2) (w : World) (hcap : rs.length ≤ c) (hnil : A = none → c = 0) (hr : Reads encR 4 w A rs) (hoks : ∀ x ∈ rs, OkR x) (hoa : OkA a) :
    Calls Try.prog 9 #[.slice A rs.length c, .agg #[.int .u64 a.x, .int .u64 a.y]] w fun e w' => e = .returned (.bool true) ∧ Below w.heap.size w w' :=
  (g_MergeSays rs a hoa (fun x hx => (hoks x hx).1.1) hr.1).run (.sl hcap hnil hr lenR oneR (.val .nil))
end Go.Proofs.Ytjibochjmmehcaa
