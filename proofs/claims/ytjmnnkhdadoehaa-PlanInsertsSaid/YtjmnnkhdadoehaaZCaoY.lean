/- cao.walk, Insert. -/
import Derived.Test.YtjmnnkhdadoehaaZMergeF
namespace Go.Proofs.Ytjmnnkhdadoehaa
set_option linter.unusedSimpArgs false
set_option linter.unusedVariables false
open Go Go.RowKit Go.Shelf
theorem ArgsP.cons {P : Program} {S : St} {x : Operand} {xs : List Operand} {A : AV} {As : List AV} (h : ArgP P S (S.opv x) A) (t : ArgsP P S xs As) : ArgsP P S (x :: xs) (A :: As) := ⟨h, t⟩
theorem ArgsP.nil {P : Program} {S : St} : ArgsP P S [] [] := trivial
def NextIs (nx : Int → Int × Int) (n : Nat) (As : List AV) (res : AV) : Prop := ∃ a : Int, As = [.val (.int .i64 a)] ∧ 0 ≤ a ∧ a < n ∧ res = .tup [.val (.int .i64 (nx a).1), .val (.int .i64 (nx a).2)]
theorem nextB_bound (l : List Slt) {a : Int} (h0 : 0 ≤ a) (h1 : a < l.length) : a < (nextB l a).1 ∧ (nextB l a).1 ≤ l.length ∧ -1 ≤ (nextB l a).2 ∧ (nextB l a).2 < l.length := by
  obtain ⟨q1, q2, _, _⟩ := loF_spec l (nth l a.toNat).e (show a.toNat + 1 ≤ l.length by omega)
  unfold nextB
  dsimp only
  rcases emFirst_spec l q1 with ⟨h, _⟩ | ⟨r, h, h2, h3, _⟩
  · rw [h]; omega
  · rw [h]; omega
theorem nextA_bound (l : List Slt) {a : Int} (h0 : 0 ≤ a) (h1 : a < l.length) : (nextA l a).1 < a ∧ -1 ≤ (nextA l a).1 ∧ -1 ≤ (nextA l a).2 ∧ (nextA l a).2 < l.length := by
  have qb := lastTo_bound (hiP l (nth l a.toNat).e) a.toNat
  have hq : hiF l (nth l a.toNat).e a.toNat = lastTo (hiP l (nth l a.toNat).e) a.toNat := rfl
  unfold nextA
  dsimp only
  rcases emLast_spec l (hiF l (nth l a.toNat).e a.toNat + 1).toNat a.toNat with ⟨h, _⟩ | ⟨r, h, h2, h3, _⟩
  · rw [h]; omega
  · rw [h]; omega
theorem wayG_in {nx : Int → Int × Int} {n : Nat} (hb : ∀ a : Int, 0 ≤ a → a < n → (nx a).2 < n) : ∀ (f : Nat) (a : Int), ∀ v ∈ wayG nx n f a, 0 ≤ v ∧ v < n
  | 0, a, v, h => by cases h
  | f + 1, a, v, h => by
    by_cases hin : 0 ≤ a ∧ a < n
    · by_cases h2 : 0 ≤ (nx a).2
      · rw [wayG_free hin h2] at h
        have := hb a hin.1 hin.2
        rcases List.mem_cons.1 h with rfl | h
        · exact hin
        · rw [List.mem_singleton.1 h]; exact ⟨h2, this⟩
      · rw [wayG_far hin h2] at h
        have ih := wayG_in hb f (nx a).1
        cases hw : wayG nx n f (nx a).1 with
        | nil => rw [hw] at h; cases h
        | cons b w =>
          rw [hw] at h ih
          rcases List.mem_cons.1 h with rfl | h
          · exact hin
          · exact ih v h
    · rw [wayG_out hin] at h; cases h
theorem wayG_length {nx : Int → Int × Int} {n : Nat} : ∀ (f : Nat) (a : Int), (wayG nx n f a).length ≤ f + 1
  | 0, a => by simp [wayG]
  | f + 1, a => by
    by_cases hin : 0 ≤ a ∧ a < n
    · by_cases h2 : 0 ≤ (nx a).2
      · rw [wayG_free hin h2]; simp
      · rw [wayG_far hin h2]
        have ih := wayG_length (nx := nx) (n := n) f (nx a).1
        cases hw : wayG nx n f (nx a).1 with
        | nil => simp [behind]
        | cons b w => rw [hw] at ih; simp only [behind, List.length_append, List.length_cons, List.length_nil] at *; omega
    · rw [wayG_out hin]; simp
attribute [local irreducible] OpH OpT LT CT HT Good
theorem arm50_1 {p : Prop} (h : p := by first | exact OpH.assign (v := .val _) rfl | exact OpH.assign (v := .sl _ _) rfl | exact OpH.assign (v := .row _ _ _ _) rfl | exact OpH.assign (v := .full _ _) rfl | exact OpH.assign (v := .ptr _ _) rfl | exact OpH.assign (v := .cptr _) rfl | exact OpH.assign (v := .cloB _ _) rfl | exact OpH.assign (v := .clo _ _) rfl | exact OpH.assign (v := .pr _) rfl | exact OpH.assign (v := .arow _) rfl | exact OpH.assign (v := .aptr _ _ _ _) rfl | exact OpH.assign (v := .asub _ _ _ _) rfl | exact OpH.assign (v := .tup _) rfl | exact OpH.move (v := .val _) rfl | exact OpH.move (v := .sl _ _) rfl | exact OpH.move (v := .row _ _ _ _) rfl | exact OpH.move (v := .full _ _) rfl | exact OpH.move (v := .ptr _ _) rfl | exact OpH.move (v := .cptr _) rfl | exact OpH.move (v := .cloB _ _) rfl | exact OpH.move (v := .clo _ _) rfl | exact OpH.move (v := .pr _) rfl | exact OpH.move (v := .arow _) rfl | exact OpH.move (v := .aptr _ _ _ _) rfl | exact OpH.move (v := .asub _ _ _ _) rfl | exact OpH.move (v := .tup _) rfl | exact OpH.bin rfl rfl (pb_geq_t (by omega)) | exact OpH.bin rfl rfl (pb_geq_f (by omega)) | exact OpH.bin rfl rfl (pb_geq) | exact OpH.lenM (t := 22) rfl (.sl _ _) (by kernel_rfl) | exact OpH.lenM (t := 22) rfl (.row _ _ _ _) (by kernel_rfl) | exact OpH.lenM (t := 22) rfl (.full _ _) (by kernel_rfl) | exact OpH.len (t := 22) rfl slP (by kernel_rfl) | exact OpH.lenNil (t := 22) rfl (by kernel_rfl) | exact OpH.bin rfl rfl (pb_lss_t (by omega)) | exact OpH.bin rfl rfl (pb_lss_f (by omega)) | exact OpH.bin rfl rfl (pb_lss) | exact OpH.pick (b := true) (v := .val _) rfl rfl | exact OpH.pick (b := false) (v := .val _) rfl rfl | exact OpH.pick (b := true) (v := .sl _ _) rfl rfl | exact OpH.pick (b := false) (v := .sl _ _) rfl rfl | exact OpH.pick (b := true) (v := .row _ _ _ _) rfl rfl | exact OpH.pick (b := false) (v := .row _ _ _ _) rfl rfl | exact OpH.pick (b := true) (v := .full _ _) rfl rfl | exact OpH.pick (b := false) (v := .full _ _) rfl rfl | exact OpH.pickV rfl rfl rfl | exact lit_94_1 rfl | exact OpH.extract (v := .val _) rfl rfl (fun _ h => by cases h) | exact OpH.extract (v := .sl _ _) rfl rfl (fun _ h => by cases h) | exact OpH.extract (v := .row _ _ _ _) rfl rfl (fun _ h => by cases h) | exact OpH.extract (v := .full _ _) rfl rfl (fun _ h => by cases h)) : p := h
set_option maxRecDepth 100000 in
set_option maxHeartbeats 2000000 in
theorem g_walk (l : List Slt) (nx : Int → Int × Int) (μ : Int → Nat) (F : Nat) (a0 : Int) (hF : F ≤ 70000) (h0 : 0 ≤ a0 → a0 < l.length → μ a0 < F) (hμ : ∀ a : Int, 0 ≤ a → a < l.length → ¬ 0 ≤ (nx a).2 → 0 ≤ (nx a).1 → (nx a).1 < l.length → μ (nx a).1 < μ a)
    (hl : l.length ≤ 65536) : Good Try.prog 50 [.sl 7 (l.map encS), .val (.int .i64 a0), .pr (FnIs Try.prog (NextIs nx l.length))] (.row 6 3 1 ((wayG nx l.length F a0).map encI)) := by
  refine Good.of_body (T := [(0, _), (1, _), (2, _)]) Try.func50 rfl rfl rfl ?_
  intro K0 w0 hno
  repeat' (first | refine CT.seqR ?_ | refine CT.region ?_ | refine CT.seq1 ?_ | refine CT.block ?_ | refine CT.condT rfl ?_ | refine CT.condF rfl ?_ | refine CT.condD rfl (fun _ => ?_) (fun _ => ?_) | refine CT.condN rfl (fun _ => ?_) (fun _ => ?_) | refine CT.cond rfl (fun _ => ?_) (fun _ => ?_) | refine CT.skip ?_ | refine CT.exit ?_ | refine CT.ret ?_ | refine LT.nil ?_ | refine HT.nil1 ?_ | (refine LT.consT ?_; (first | refine T.appNil (t := 94) (e := 3) (k := 1) (bytes := 8) rfl rfl srP (by kernel_rfl) szP (by decide) rfl ?_ | refine T.app (t := 94) (e := 3) (k := 1) (bytes := 8) rfl rfl srP (by kernel_rfl) szP (by decide) rfl rfl ?_)) | ((first | apply LT.cons1 | (apply LT.guard1; rfl; rfl; rfl; decide)); (first | exact arm50_1); decide) | refine LT.skip1 rfl rfl rfl (by decide) (by decide) ?_ | refine LT.skip2 rfl rfl (by decide) (by decide) ?_ | refine LT.partD rfl rfl (fun _ => ?_) (fun _ => ?_) | refine LT.partN rfl rfl (fun _ => ?_) (fun _ => ?_) | (refine LT.part1 rfl rfl (fun h => ?_) (fun h => ?_); (fail_if_success exact absurd h (by decide)); rotate_left; (fail_if_success exact absurd h (by decide)); rotate_left))
  refine CT.loopX (fun q : List Int × Int × Nat => (⟨[(0, .sl 7 (l.map encS)), (1, .val (.int .i64 q.2.1)), (2, .pr (FnIs Try.prog (NextIs nx l.length))), (7, .row 7 3 1 (q.1.map encI))], [], []⟩ : St))
    (fun q => wayG nx l.length F a0 = behind q.1 (wayG nx l.length q.2.2 q.2.1) ∧ (0 ≤ q.2.1 → q.2.1 < l.length → μ q.2.1 < q.2.2) ∧ q.1.length + q.2.2 ≤ 70000) (fun q => q.2.2) ([], a0, F) ?_ ⟨by cases wayG nx l.length F a0 <;> rfl, h0, by simp; omega⟩ ?_
  · (apply Sub.mk; (focus (repeat (first | exact .nil | refine .other (.keep rfl rfl) ?_ | refine .other (.aref rfl rfl rfl) ?_ | refine .other (.val rfl (by first | rfl | (congr 1; first | omega | assumption | (symm; assumption)) | (simp; omega))) ?_ | refine .other .dead ?_ | refine .other (.sl rfl (.row _ _ _ _) rfl) ?_ | refine .other (.sl rfl (.sl _ _) rfl) ?_ | refine .other (.sl rfl (.full _ _) rfl) ?_ | refine .other (.slNil rfl rfl) ?_ | refine .rowNil rfl rfl rfl ?_ | refine .row rfl (by first | rfl | assumption | (rw [← List.map_append]; first | done | rfl | congr 1)) rfl rfl ?_))); (focus (repeat (first | exact .nil | refine KeepB.same rfl rfl rfl ?_ | refine KeepB.sameA rfl rfl rfl ?_))); (focus (repeat (first | exact .nil | refine KeepA.cons rfl (by first | rfl | assumption | exact List.map_set | exact List.map_set.symm | (rw [← List.map_append]; first | done | rfl | congr 1) | (congr 1; first | omega | assumption)) ?_))))
  rintro ⟨pre, a, f⟩ ⟨hw, hf, hp⟩
  dsimp only at hw hf hp ⊢
  by_cases hin : 0 ≤ a ∧ a < l.length
  · obtain ⟨h1, h2⟩ := hin
    obtain ⟨f, rfl⟩ : ∃ f', f = f' + 1 := ⟨f - 1, by have := hf h1 h2; omega⟩
    by_cases hfree : 0 ≤ (nx a).2
    · rw [wayG_free ⟨h1, h2⟩ hfree] at hw
      have hw' : wayG nx l.length F a0 = pre ++ [a] ++ [(nx a).2] := by rw [hw]; simp [behind]
      rw [hw']
      generalize hn1 : (nx a).1 = n1
      generalize hn2 : (nx a).2 = n2 at hfree ⊢
      repeat' (first | (refine CT.sub (S' := ⟨[(6, .row 6 3 1 ((pre ++ [a] ++ [n2]).map encI))], [], []⟩) ?_ (CT.ret ?_)) | refine CT.seqR ?_ | refine CT.region ?_ | refine CT.seq1 ?_ | refine CT.block ?_ | refine CT.condT rfl ?_ | refine CT.condF rfl ?_ | refine CT.condD rfl (fun _ => ?_) (fun _ => ?_) | refine CT.condN rfl (fun _ => ?_) (fun _ => ?_) | refine CT.cond rfl (fun _ => ?_) (fun _ => ?_) | refine CT.skip ?_ | refine CT.exit ?_ | refine CT.ret ?_ | refine LT.nil ?_ | refine HT.nil1 ?_ | (refine LT.consT ?_; (first | refine T.appNil (t := 94) (e := 3) (k := 1) (bytes := 8) rfl rfl srP (by kernel_rfl) szP (by decide) rfl ?_ | refine T.app (t := 94) (e := 3) (k := 1) (bytes := 8) rfl rfl srP (by kernel_rfl) szP (by decide) rfl rfl ?_)) | ((first | apply LT.cons1 | (apply LT.guard1; rfl; rfl; rfl; decide)); (first | exact OpH.callP (res := .tup [.val (.int .i64 n1), .val (.int .i64 n2)]) rfl rfl ⟨a, rfl, h1, h2, by rw [hn1, hn2]⟩ rfl | exact arm50_1); decide) | refine LT.skip1 rfl rfl rfl (by decide) (by decide) ?_ | refine LT.skip2 rfl rfl (by decide) (by decide) ?_ | refine LT.partD rfl rfl (fun _ => ?_) (fun _ => ?_) | refine LT.partN rfl rfl (fun _ => ?_) (fun _ => ?_) | (refine LT.part1 rfl rfl (fun h => ?_) (fun h => ?_); (fail_if_success exact absurd h (by decide)); rotate_left; (fail_if_success exact absurd h (by decide)); rotate_left))
      · rw [show List.map encI (pre ++ [a] ++ [n2]) = List.map encI (pre ++ [a]) ++ List.map encI [n2] from List.map_append]
        (apply Sub.mk; (focus (repeat (first | exact .nil | refine .other (.keep rfl rfl) ?_ | refine .other (.aref rfl rfl rfl) ?_ | refine .other (.val rfl (by first | rfl | (congr 1; first | omega | assumption | (symm; assumption)) | (simp; omega))) ?_ | refine .other .dead ?_ | refine .other (.sl rfl (.row _ _ _ _) rfl) ?_ | refine .other (.sl rfl (.sl _ _) rfl) ?_ | refine .other (.sl rfl (.full _ _) rfl) ?_ | refine .other (.slNil rfl rfl) ?_ | refine .rowNil rfl rfl rfl ?_ | refine .row rfl (by first | rfl | assumption | (rw [← List.map_append]; first | done | rfl | congr 1)) rfl rfl ?_))); (focus (repeat (first | exact .nil | refine KeepB.same rfl rfl rfl ?_ | refine KeepB.sameA rfl rfl rfl ?_))); (focus (repeat (first | exact .nil | refine KeepA.cons rfl (by first | rfl | assumption | exact List.map_set | exact List.map_set.symm | (rw [← List.map_append]; first | done | rfl | congr 1) | (congr 1; first | omega | assumption)) ?_))))
      · refine ⟨by first | exact .inl rfl | exact .inr rfl, _, (.cons (.tmp 6 (A := .row _ _ _ _) rfl (fun _ h => by cases h)) .nil), ?_, rfl⟩
        rfl
    · rw [wayG_far ⟨h1, h2⟩ hfree] at hw
      have hw' : wayG nx l.length F a0 = behind (pre ++ [a]) (wayG nx l.length f (nx a).1) := by
        rw [hw]
        cases wayG nx l.length f (nx a).1 with
        | nil => rfl
        | cons b w => simp [behind]
      have hm := hμ a h1 h2 hfree
      have hfa := hf h1 h2
      generalize hn1 : (nx a).1 = n1 at hw' hm
      generalize hn2 : (nx a).2 = n2 at hfree
      repeat' (first | refine CT.seqR ?_ | refine CT.region ?_ | refine CT.seq1 ?_ | refine CT.block ?_ | refine CT.condT rfl ?_ | refine CT.condF rfl ?_ | refine CT.condD rfl (fun _ => ?_) (fun _ => ?_) | refine CT.condN rfl (fun _ => ?_) (fun _ => ?_) | refine CT.cond rfl (fun _ => ?_) (fun _ => ?_) | refine CT.skip ?_ | refine CT.exit ?_ | refine CT.ret ?_ | refine LT.nil ?_ | refine HT.nil1 ?_ | (refine LT.consT ?_; (first | refine T.appNil (t := 94) (e := 3) (k := 1) (bytes := 8) rfl rfl srP (by kernel_rfl) szP (by decide) rfl ?_ | refine T.app (t := 94) (e := 3) (k := 1) (bytes := 8) rfl rfl srP (by kernel_rfl) szP (by decide) rfl rfl ?_)) | ((first | apply LT.cons1 | (apply LT.guard1; rfl; rfl; rfl; decide)); (first | exact OpH.callP (res := .tup [.val (.int .i64 n1), .val (.int .i64 n2)]) rfl rfl ⟨a, rfl, h1, h2, by rw [hn1, hn2]⟩ rfl | exact arm50_1); decide) | refine LT.skip1 rfl rfl rfl (by decide) (by decide) ?_ | refine LT.skip2 rfl rfl (by decide) (by decide) ?_ | refine LT.partD rfl rfl (fun _ => ?_) (fun _ => ?_) | refine LT.partN rfl rfl (fun _ => ?_) (fun _ => ?_) | (refine LT.part1 rfl rfl (fun h => ?_) (fun h => ?_); (fail_if_success exact absurd h (by decide)); rotate_left; (fail_if_success exact absurd h (by decide)); rotate_left))
      refine ⟨(pre ++ [a], n1, f), ⟨hw', fun q1 q2 => ?_, ?_⟩, by dsimp only; omega, ?_⟩
      · have := hm q1 q2
        dsimp only at *
        omega
      · simp only [List.length_append, List.length_singleton]; omega
      · dsimp only
        (apply Sub.mk; (focus (repeat (first | exact .nil | refine .other (.keep rfl rfl) ?_ | refine .other (.aref rfl rfl rfl) ?_ | refine .other (.val rfl (by first | rfl | (congr 1; first | omega | assumption | (symm; assumption)) | (simp; omega))) ?_ | refine .other .dead ?_ | refine .other (.sl rfl (.row _ _ _ _) rfl) ?_ | refine .other (.sl rfl (.sl _ _) rfl) ?_ | refine .other (.sl rfl (.full _ _) rfl) ?_ | refine .other (.slNil rfl rfl) ?_ | refine .rowNil rfl rfl rfl ?_ | refine .row rfl (by first | rfl | assumption | (rw [← List.map_append]; first | done | rfl | congr 1)) rfl rfl ?_))); (focus (repeat (first | exact .nil | refine KeepB.same rfl rfl rfl ?_ | refine KeepB.sameA rfl rfl rfl ?_))); (focus (repeat (first | exact .nil | refine KeepA.cons rfl (by first | rfl | assumption | exact List.map_set | exact List.map_set.symm | (rw [← List.map_append]; first | done | rfl | congr 1) | (congr 1; first | omega | assumption)) ?_))))
  · rw [wayG_out hin] at hw
    have hw' : wayG nx l.length F a0 = [] := hw
    rw [hw']
    have hcase : a < 0 ∨ (0 ≤ a ∧ (l.length : Int) ≤ a) := by omega
    rcases hcase with h | ⟨h, h'⟩
    all_goals
      repeat' (first | (refine CT.sub (S' := ⟨[(6, .row 6 3 1 (([] : List Int).map encI))], [], []⟩) ?_ (CT.ret ?_)) | refine CT.seqR ?_ | refine CT.region ?_ | refine CT.seq1 ?_ | refine CT.block ?_ | refine CT.condT rfl ?_ | refine CT.condF rfl ?_ | refine CT.condD rfl (fun _ => ?_) (fun _ => ?_) | refine CT.condN rfl (fun _ => ?_) (fun _ => ?_) | refine CT.cond rfl (fun _ => ?_) (fun _ => ?_) | refine CT.skip ?_ | refine CT.exit ?_ | refine CT.ret ?_ | refine LT.nil ?_ | refine HT.nil1 ?_ | (refine LT.consT ?_; (first | refine T.appNil (t := 94) (e := 3) (k := 1) (bytes := 8) rfl rfl srP (by kernel_rfl) szP (by decide) rfl ?_ | refine T.app (t := 94) (e := 3) (k := 1) (bytes := 8) rfl rfl srP (by kernel_rfl) szP (by decide) rfl rfl ?_)) | ((first | apply LT.cons1 | (apply LT.guard1; rfl; rfl; rfl; decide)); (first | exact arm50_1); decide) | refine LT.skip1 rfl rfl rfl (by decide) (by decide) ?_ | refine LT.skip2 rfl rfl (by decide) (by decide) ?_ | refine LT.partD rfl rfl (fun _ => ?_) (fun _ => ?_) | refine LT.partN rfl rfl (fun _ => ?_) (fun _ => ?_) | (refine LT.part1 rfl rfl (fun h => ?_) (fun h => ?_); (fail_if_success exact absurd h (by decide)); rotate_left; (fail_if_success exact absurd h (by decide)); rotate_left))
      · (apply Sub.mk; (focus (repeat (first | exact .nil | refine .other (.keep rfl rfl) ?_ | refine .other (.aref rfl rfl rfl) ?_ | refine .other (.val rfl (by first | rfl | (congr 1; first | omega | assumption | (symm; assumption)) | (simp; omega))) ?_ | refine .other .dead ?_ | refine .other (.sl rfl (.row _ _ _ _) rfl) ?_ | refine .other (.sl rfl (.sl _ _) rfl) ?_ | refine .other (.sl rfl (.full _ _) rfl) ?_ | refine .other (.slNil rfl rfl) ?_ | refine .rowNil rfl rfl rfl ?_ | refine .row rfl (by first | rfl | assumption | (rw [← List.map_append]; first | done | rfl | congr 1)) rfl rfl ?_))); (focus (repeat (first | exact .nil | refine KeepB.same rfl rfl rfl ?_ | refine KeepB.sameA rfl rfl rfl ?_))); (focus (repeat (first | exact .nil | refine KeepA.cons rfl (by first | rfl | assumption | exact List.map_set | exact List.map_set.symm | (rw [← List.map_append]; first | done | rfl | congr 1) | (congr 1; first | omega | assumption)) ?_))))
      · refine ⟨by first | exact .inl rfl | exact .inr rfl, _, (.cons (.tmp 6 (A := .row _ _ _ _) rfl (fun _ h => by cases h)) .nil), ?_, rfl⟩
        rfl
theorem arm51_1 {p : Prop} (h : p := by first | exact OpH.assign (v := .val _) rfl | exact OpH.assign (v := .sl _ _) rfl | exact OpH.assign (v := .row _ _ _ _) rfl | exact OpH.assign (v := .full _ _) rfl | exact OpH.assign (v := .ptr _ _) rfl | exact OpH.assign (v := .cptr _) rfl | exact OpH.assign (v := .cloB _ _) rfl | exact OpH.assign (v := .clo _ _) rfl | exact OpH.assign (v := .pr _) rfl | exact OpH.assign (v := .arow _) rfl | exact OpH.assign (v := .aptr _ _ _ _) rfl | exact OpH.assign (v := .asub _ _ _ _) rfl | exact OpH.assign (v := .tup _) rfl | exact OpH.loadC1 (t := 22) rfl (by kernel_rfl) rfl | exact OpH.loadB1 (t := 22) rfl rfl (by kernel_rfl) rfl | exact OpH.move (v := .val _) rfl | exact OpH.move (v := .sl _ _) rfl | exact OpH.move (v := .row _ _ _ _) rfl | exact OpH.move (v := .full _ _) rfl | exact OpH.move (v := .ptr _ _) rfl | exact OpH.move (v := .cptr _) rfl | exact OpH.move (v := .cloB _ _) rfl | exact OpH.move (v := .clo _ _) rfl | exact OpH.move (v := .pr _) rfl | exact OpH.move (v := .arow _) rfl | exact OpH.move (v := .aptr _ _ _ _) rfl | exact OpH.move (v := .asub _ _ _ _) rfl | exact OpH.move (v := .tup _) rfl | exact OpH.bin rfl rfl (pb_inc (by omega)) | exact OpH.bin rfl rfl (pb_addN rfl (by omega)) | exact OpH.bin rfl rfl (pb_add (by omega)) | exact OpH.bin rfl rfl (pb_addw) | exact OpH.indexS (t := 22) (k := 7) rfl slP rfl rfl (by kernel_rfl) (map_at bd) rfl | exact OpH.fieldC (s := 61) (f := 1) (off := 1) rfl (by kernel_rfl) rfl | exact OpH.fieldB (s := 61) (f := 1) (off := 1) rfl (by kernel_rfl) rfl | exact loadC6 (t := 29) rfl (by kernel_rfl) | exact loadB6 (t := 29) rfl rfl (by kernel_rfl) rfl) : p := h
set_option maxRecDepth 100000 in
set_option maxHeartbeats 2000000 in
theorem g_ins1 (l : List Slt) (hl : l.length ≤ 65536) (k : Nat) (hk : k < l.length) : Good Try.prog 51 [.val (.int .i64 k), .pr (PSl 7 (l.map encS))] (.tup [.val (.int .i64 (nextB l k).1), .val (.int .i64 (nextB l k).2)]) := by
  have e1 : (nextB l k).1 = (loF l (nth l k).e (k + 1) : Int) := by unfold nextB; simp only [Int.toNat_natCast]
  have e2 : (nextB l k).2 = emFirst l (k + 1) (loF l (nth l k).e (k + 1)) := by unfold nextB; simp only [Int.toNat_natCast]
  rw [e1, e2]
  obtain ⟨s, hs⟩ : ∃ s, l[k] = s := ⟨_, rfl⟩
  have hat := slot_at hk hs
  rw [nth_is hk hs]
  obtain ⟨q1, q2, _, _⟩ := loF_spec l s.e (show k + 1 ≤ l.length by omega)
  have gL := g_lowest l s.e (k + 1) (by omega) hl
  have gE := g_emptyF l (k + 1) (loF l s.e (k + 1)) q1 q2 hl
  generalize loF l s.e (k + 1) = far at q1 q2 gL gE ⊢
  refine Good.of_body (T := [(0, _), (1, _)]) Try.func51 rfl rfl rfl ?_
  intro K0 w0 hno
  repeat' (first | refine CT.seqR ?_ | refine CT.seqD (id := 1) 9 (by kernel_rfl) (by kernel_rfl) ?_ | refine CT.draw (id := 1) 9 (by kernel_rfl) (by kernel_rfl) ?_ | refine CT.region ?_ | refine CT.seq1 ?_ | refine CT.block ?_ | refine CT.condT rfl ?_ | refine CT.condF rfl ?_ | refine CT.condD rfl (fun _ => ?_) (fun _ => ?_) | refine CT.condN rfl (fun _ => ?_) (fun _ => ?_) | refine CT.cond rfl (fun _ => ?_) (fun _ => ?_) | refine CT.skip ?_ | refine CT.exit ?_ | refine CT.ret ?_ | refine LT.nil ?_ | refine HT.nil1 ?_ | ((first | apply LT.cons1 | apply HT.cons1); (first | exact OpH.loadP rfl (by kernel_rfl) | exact OpH.indexS (t := 22) (k := 7) (j := k) rfl slP rfl rfl (by kernel_rfl) hat rfl | exact OpH.callF Try.func52 rfl rfl rfl gL rfl | exact OpH.callF Try.func48 rfl rfl rfl gE rfl | exact arm51_1); (try decide)))
  refine ⟨by first | exact .inl rfl | exact .inr rfl, _, (.cons (.tmp 3 (A := .val _) rfl (fun _ h => by cases h)) (.cons (.tmp 4 (A := .val _) rfl (fun _ h => by cases h)) .nil)), ?_, rfl⟩
  rfl
theorem arm53_1 {p : Prop} (h : p := by first | exact OpH.assign (v := .val _) rfl | exact OpH.assign (v := .sl _ _) rfl | exact OpH.assign (v := .row _ _ _ _) rfl | exact OpH.assign (v := .full _ _) rfl | exact OpH.assign (v := .ptr _ _) rfl | exact OpH.assign (v := .cptr _) rfl | exact OpH.assign (v := .cloB _ _) rfl | exact OpH.assign (v := .clo _ _) rfl | exact OpH.assign (v := .pr _) rfl | exact OpH.assign (v := .arow _) rfl | exact OpH.assign (v := .aptr _ _ _ _) rfl | exact OpH.assign (v := .asub _ _ _ _) rfl | exact OpH.assign (v := .tup _) rfl | exact OpH.loadC1 (t := 22) rfl (by kernel_rfl) rfl | exact OpH.loadB1 (t := 22) rfl rfl (by kernel_rfl) rfl | exact OpH.move (v := .val _) rfl | exact OpH.move (v := .sl _ _) rfl | exact OpH.move (v := .row _ _ _ _) rfl | exact OpH.move (v := .full _ _) rfl | exact OpH.move (v := .ptr _ _) rfl | exact OpH.move (v := .cptr _) rfl | exact OpH.move (v := .cloB _ _) rfl | exact OpH.move (v := .clo _ _) rfl | exact OpH.move (v := .pr _) rfl | exact OpH.move (v := .arow _) rfl | exact OpH.move (v := .aptr _ _ _ _) rfl | exact OpH.move (v := .asub _ _ _ _) rfl | exact OpH.move (v := .tup _) rfl | exact OpH.indexS (t := 22) (k := 7) rfl slP rfl rfl (by kernel_rfl) (map_at bd) rfl | exact OpH.fieldC (s := 61) (f := 1) (off := 1) rfl (by kernel_rfl) rfl | exact OpH.fieldB (s := 61) (f := 1) (off := 1) rfl (by kernel_rfl) rfl | exact loadC6 (t := 29) rfl (by kernel_rfl) | exact loadB6 (t := 29) rfl rfl (by kernel_rfl) rfl | exact OpH.bin rfl rfl (pb_inc (by omega)) | exact OpH.bin rfl rfl (pb_addN rfl (by omega)) | exact OpH.bin rfl rfl (pb_add (by omega)) | exact OpH.bin rfl rfl (pb_addw)) : p := h
set_option maxRecDepth 100000 in
set_option maxHeartbeats 2000000 in
theorem g_ins2 (l : List Slt) (hl : l.length ≤ 65536) (k : Nat) (hk : k < l.length) : Good Try.prog 53 [.val (.int .i64 k), .pr (PSl 7 (l.map encS))] (.tup [.val (.int .i64 (nextA l k).1), .val (.int .i64 (nextA l k).2)]) := by
  have e1 : (nextA l k).1 = hiF l (nth l k).e k := by unfold nextA; simp only [Int.toNat_natCast]
  have e2 : (nextA l k).2 = emLast l (hiF l (nth l k).e k + 1).toNat k := by unfold nextA; simp only [Int.toNat_natCast]
  rw [e1, e2]
  obtain ⟨s, hs⟩ : ∃ s, l[k] = s := ⟨_, rfl⟩
  have hat := slot_at hk hs
  rw [nth_is hk hs]
  have qb := lastTo_bound (hiP l s.e) k
  have hq : hiF l s.e k = lastTo (hiP l s.e) k := rfl
  have gL := g_highest l s.e k (by omega) hl
  have gE := g_emptyL l (hiF l s.e k + 1).toNat k (by omega) (by omega) hl
  rw [Int.toNat_of_nonneg (show 0 ≤ hiF l s.e k + 1 by omega)] at gE
  have hb : -1 ≤ hiF l s.e k ∧ hiF l s.e k < k := by omega
  generalize emLast l (hiF l s.e k + 1).toNat k = fr at gE ⊢
  generalize hiF l s.e k = far at gL gE hb ⊢
  refine Good.of_body (T := [(0, _), (1, _)]) Try.func53 rfl rfl rfl ?_
  intro K0 w0 hno
  repeat' (first | refine CT.seqR ?_ | refine CT.seqD (id := 1) 8 (by kernel_rfl) (by kernel_rfl) ?_ | refine CT.draw (id := 1) 8 (by kernel_rfl) (by kernel_rfl) ?_ | refine CT.region ?_ | refine CT.seq1 ?_ | refine CT.block ?_ | refine CT.condT rfl ?_ | refine CT.condF rfl ?_ | refine CT.condD rfl (fun _ => ?_) (fun _ => ?_) | refine CT.condN rfl (fun _ => ?_) (fun _ => ?_) | refine CT.cond rfl (fun _ => ?_) (fun _ => ?_) | refine CT.skip ?_ | refine CT.exit ?_ | refine CT.ret ?_ | refine LT.nil ?_ | refine HT.nil1 ?_ | ((first | apply LT.cons1 | apply HT.cons1); (first | exact OpH.loadP rfl (by kernel_rfl) | exact OpH.indexS (t := 22) (k := 7) (j := k) rfl slP rfl rfl (by kernel_rfl) hat rfl | exact OpH.callF Try.func54 rfl rfl rfl gL rfl | exact OpH.callF Try.func48 rfl rfl rfl gE rfl | exact arm53_1); (try decide)))
  refine ⟨by first | exact .inl rfl | exact .inr rfl, _, (.cons (.tmp 3 (A := .val _) rfl (fun _ h => by cases h)) (.cons (.tmp 4 (A := .val _) rfl (fun _ h => by cases h)) .nil)), ?_, rfl⟩
  rfl
theorem spec1 (l : List Slt) (hl : l.length ≤ 65536) : ∀ As res, NextIs (nextB l) l.length As res → Good Try.prog 51 (As ++ [.pr (PSl 7 (l.map encS))]) res := by
  rintro As res ⟨a, rfl, h0, h1, rfl⟩
  obtain ⟨k, rfl⟩ : ∃ k : Nat, a = k := ⟨a.toNat, by omega⟩
  exact g_ins1 l hl k (by omega)
theorem spec2 (l : List Slt) (hl : l.length ≤ 65536) : ∀ As res, NextIs (nextA l) l.length As res → Good Try.prog 53 (As ++ [.pr (PSl 7 (l.map encS))]) res := by
  rintro As res ⟨a, rfl, h0, h1, rfl⟩
  obtain ⟨k, rfl⟩ : ∃ k : Nat, a = k := ⟨a.toNat, by omega⟩
  exact g_ins2 l hl k (by omega)
theorem g_walkB (l : List Slt) (a0 : Int) (h0 : 0 ≤ a0) (hl : l.length ≤ 65536) : Good Try.prog 50 [.sl 7 (l.map encS), .val (.int .i64 a0), .pr (FnIs Try.prog (NextIs (nextB l) l.length))] (.row 6 3 1 ((wayB l a0).map encI)) :=
  g_walk l (nextB l) (fun a => l.length - a.toNat) (l.length + 1) a0 (by omega) (fun _ _ => by omega) (fun a h1 h2 _ h3 h4 => by
    have := nextB_bound l h1 h2
    omega) hl
theorem g_walkA (l : List Slt) (a0 : Int) (hl : l.length ≤ 65536) : Good Try.prog 50 [.sl 7 (l.map encS), .val (.int .i64 a0), .pr (FnIs Try.prog (NextIs (nextA l) l.length))] (.row 6 3 1 ((wayA l a0).map encI)) :=
  g_walk l (nextA l) (fun a => a.toNat) (l.length + 1) a0 (by omega) (fun _ _ => by omega) (fun a h1 h2 _ h3 h4 => by
    have := nextA_bound l h1 h2
    omega) hl
end Go.Proofs.Ytjmnnkhdadoehaa
