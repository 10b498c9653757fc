/- cao.walk, Insert. -/
import Derived.Test.YtjmnnkhdadoehaaQMergeF
import Derived.Test.YtjmnnkhdadoehaaQWalkR5
namespace Go.Proofs.Ytjmnnkhdadoehaa
set_option linter.unusedSimpArgs false
set_option linter.unusedVariables false
open Go Go.RowKit Go.Shelf
theorem ArgsP.cons {P : Program} {S : St} {x : Operand} {xs : List Operand} {A : AV} {As : List AV} (h : ArgP P S (S.opv x) A) (t : ArgsP P S xs As) : ArgsP P S (x :: xs) (A :: As) := ⟨h, t⟩
theorem ArgsP.nil {P : Program} {S : St} : ArgsP P S [] [] := trivial
def NextIs (nx : Int → Int × Int) (n : Nat) (As : List AV) (res : AV) : Prop := ∃ a : Int, As = [.val (.int .i64 a)] ∧ 0 ≤ a ∧ a < n ∧ res = .tup [.val (.int .i64 (nx a).1), .val (.int .i64 (nx a).2)]
theorem nextB_bound (l : List Slt) {a : Int} (h0 : 0 ≤ a) (h1 : a < l.length) : a < (nextB l a).1 ∧ (nextB l a).1 ≤ l.length ∧ -1 ≤ (nextB l a).2 ∧ (nextB l a).2 < l.length := by
  obtain ⟨q1, q2, _, _⟩ := loF_spec l (nth l a.toNat).e (show a.toNat + 1 ≤ l.length by omega)
  unfold nextB
  dsimp only
  rcases emFirst_spec l q1 with ⟨h, _⟩ | ⟨r, h, h2, h3, _⟩
  · rw [h]; omega
  · rw [h]; omega
theorem nextA_bound (l : List Slt) {a : Int} (h0 : 0 ≤ a) (h1 : a < l.length) : (nextA l a).1 < a ∧ -1 ≤ (nextA l a).1 ∧ -1 ≤ (nextA l a).2 ∧ (nextA l a).2 < l.length := by
  have qb := lastTo_bound (hiP l (nth l a.toNat).e) a.toNat
  have hq : hiF l (nth l a.toNat).e a.toNat = lastTo (hiP l (nth l a.toNat).e) a.toNat := rfl
  unfold nextA
  dsimp only
  rcases emLast_spec l (hiF l (nth l a.toNat).e a.toNat + 1).toNat a.toNat with ⟨h, _⟩ | ⟨r, h, h2, h3, _⟩
  · rw [h]; omega
  · rw [h]; omega
theorem wayG_in {nx : Int → Int × Int} {n : Nat} (hb : ∀ a : Int, 0 ≤ a → a < n → (nx a).2 < n) : ∀ (f : Nat) (a : Int), ∀ v ∈ wayG nx n f a, 0 ≤ v ∧ v < n
  | 0, a, v, h => by cases h
  | f + 1, a, v, h => by
    by_cases hin : 0 ≤ a ∧ a < n
    · by_cases h2 : 0 ≤ (nx a).2
      · rw [wayG_free hin h2] at h
        have := hb a hin.1 hin.2
        rcases List.mem_cons.1 h with rfl | h
        · exact hin
        · rw [List.mem_singleton.1 h]; exact ⟨h2, this⟩
      · rw [wayG_far hin h2] at h
        have ih := wayG_in hb f (nx a).1
        cases hw : wayG nx n f (nx a).1 with
        | nil => rw [hw] at h; cases h
        | cons b w =>
          rw [hw] at h ih
          rcases List.mem_cons.1 h with rfl | h
          · exact hin
          · exact ih v h
    · rw [wayG_out hin] at h; cases h
theorem wayG_length {nx : Int → Int × Int} {n : Nat} : ∀ (f : Nat) (a : Int), (wayG nx n f a).length ≤ f + 1
  | 0, a => by simp [wayG]
  | f + 1, a => by
    by_cases hin : 0 ≤ a ∧ a < n
    · by_cases h2 : 0 ≤ (nx a).2
      · rw [wayG_free hin h2]; simp
      · rw [wayG_far hin h2]
        have ih := wayG_length (nx := nx) (n := n) f (nx a).1
        cases hw : wayG nx n f (nx a).1 with
        | nil => simp [behind]
        | cons b w => rw [hw] at ih; simp only [behind, List.length_append, List.length_cons, List.length_nil] at *; omega
    · rw [wayG_out hin]; simp
attribute [local irreducible] OpH OpT LT CT HT Good
theorem arm50_1 {p : Prop} (h : p := by first | exact OpH.assign (v := .val _) rfl | exact OpH.assign (v := .sl _ _) rfl | exact OpH.assign (v := .row _ _ _ _) rfl | exact OpH.assign (v := .full _ _) rfl | exact OpH.assign (v := .ptr _ _) rfl | exact OpH.assign (v := .cptr _) rfl | exact OpH.assign (v := .cloB _ _) rfl | exact OpH.assign (v := .clo _ _) rfl | exact OpH.assign (v := .pr _) rfl | exact OpH.assign (v := .arow _) rfl | exact OpH.assign (v := .aptr _ _ _ _) rfl | exact OpH.assign (v := .asub _ _ _ _) rfl | exact OpH.assign (v := .tup _) rfl | exact OpH.move (v := .val _) rfl | exact OpH.move (v := .sl _ _) rfl | exact OpH.move (v := .row _ _ _ _) rfl | exact OpH.move (v := .full _ _) rfl | exact OpH.move (v := .ptr _ _) rfl | exact OpH.move (v := .cptr _) rfl | exact OpH.move (v := .cloB _ _) rfl | exact OpH.move (v := .clo _ _) rfl | exact OpH.move (v := .pr _) rfl | exact OpH.move (v := .arow _) rfl | exact OpH.move (v := .aptr _ _ _ _) rfl | exact OpH.move (v := .asub _ _ _ _) rfl | exact OpH.move (v := .tup _) rfl | exact OpH.bin rfl rfl (pb_geq_t (by omega)) | exact OpH.bin rfl rfl (pb_geq_f (by omega)) | exact OpH.bin rfl rfl (pb_geq) | exact OpH.lenM (t := 22) rfl (.sl _ _) (by kernel_rfl) | exact OpH.lenM (t := 22) rfl (.row _ _ _ _) (by kernel_rfl) | exact OpH.lenM (t := 22) rfl (.full _ _) (by kernel_rfl) | exact OpH.len (t := 22) rfl slP (by kernel_rfl) | exact OpH.lenNil (t := 22) rfl (by kernel_rfl) | exact OpH.bin rfl rfl (pb_lss_t (by omega)) | exact OpH.bin rfl rfl (pb_lss_f (by omega)) | exact OpH.bin rfl rfl (pb_lss) | exact OpH.pick (b := true) (v := .val _) rfl rfl | exact OpH.pick (b := false) (v := .val _) rfl rfl | exact OpH.pick (b := true) (v := .sl _ _) rfl rfl | exact OpH.pick (b := false) (v := .sl _ _) rfl rfl | exact OpH.pick (b := true) (v := .row _ _ _ _) rfl rfl | exact OpH.pick (b := false) (v := .row _ _ _ _) rfl rfl | exact OpH.pick (b := true) (v := .full _ _) rfl rfl | exact OpH.pick (b := false) (v := .full _ _) rfl rfl | exact OpH.pickV rfl rfl rfl | exact lit_94_1 rfl | exact OpH.extract (v := .val _) rfl rfl (fun _ h => by cases h) | exact OpH.extract (v := .sl _ _) rfl rfl (fun _ h => by cases h) | exact OpH.extract (v := .row _ _ _ _) rfl rfl (fun _ h => by cases h) | exact OpH.extract (v := .full _ _) rfl rfl (fun _ h => by cases h)) : p := h
set_option maxRecDepth 100000 in
set_option maxHeartbeats 2000000 in
theorem g_walk (l : List Slt) (nx : Int → Int × Int) (μ : Int → Nat) (F : Nat) (a0 : Int) (hF : F ≤ 70000) (h0 : 0 ≤ a0 → a0 < l.length → μ a0 < F) (hμ : ∀ a : Int, 0 ≤ a → a < l.length → ¬ 0 ≤ (nx a).2 → 0 ≤ (nx a).1 → (nx a).1 < l.length → μ (nx a).1 < μ a)
    (hl : l.length ≤ 65536) : Good Try.prog 50 [.sl 7 (l.map encS), .val (.int .i64 a0), .pr (FnIs Try.prog (NextIs nx l.length))] (.row 6 3 1 ((wayG nx l.length F a0).map encI)) := by
  refine Good.of_body (T := [(0, _), (1, _), (2, _)]) Try.func50 rfl rfl rfl ?_
  intro K0 w0 hno
  repeat' (first | refine CT.seqR ?_ | refine CT.region ?_ | refine CT.seq1 ?_ | refine CT.block ?_ | refine CT.condT rfl ?_ | refine CT.condF rfl ?_ | refine CT.condD rfl (fun _ => ?_) (fun _ => ?_) | refine CT.condN rfl (fun _ => ?_) (fun _ => ?_) | refine CT.cond rfl (fun _ => ?_) (fun _ => ?_) | refine CT.skip ?_ | refine CT.exit ?_ | refine CT.ret ?_ | refine LT.nil ?_ | refine HT.nil1 ?_ | (refine LT.consT ?_; (first | refine T.appNil (t := 94) (e := 3) (k := 1) (bytes := 8) rfl rfl srP (by kernel_rfl) szP (by decide) rfl ?_ | refine T.app (t := 94) (e := 3) (k := 1) (bytes := 8) rfl rfl srP (by kernel_rfl) szP (by decide) rfl rfl ?_)) | ((first | apply LT.cons1 | (apply LT.guard1; rfl; rfl; rfl; decide)); (first | exact arm50_1); decide) | refine LT.skip1 rfl rfl rfl (by decide) (by decide) ?_ | refine LT.skip2 rfl rfl (by decide) (by decide) ?_ | refine LT.partD rfl rfl (fun _ => ?_) (fun _ => ?_) | refine LT.partN rfl rfl (fun _ => ?_) (fun _ => ?_) | (refine LT.part1 rfl rfl (fun h => ?_) (fun h => ?_); (fail_if_success exact absurd h (by decide)); rotate_left; (fail_if_success exact absurd h (by decide)); rotate_left))
  refine CT.loopX (fun q : List Int × Int × Nat => (⟨[(0, .sl 7 (l.map encS)), (1, .val (.int .i64 q.2.1)), (2, .pr (FnIs Try.prog (NextIs nx l.length))), (7, .row 7 3 1 (q.1.map encI))], [], []⟩ : St))
    (fun q => wayG nx l.length F a0 = behind q.1 (wayG nx l.length q.2.2 q.2.1) ∧ (0 ≤ q.2.1 → q.2.1 < l.length → μ q.2.1 < q.2.2) ∧ q.1.length + q.2.2 ≤ 70000) (fun q => q.2.2) ([], a0, F) ?_ ⟨by cases wayG nx l.length F a0 <;> rfl, h0, by simp; omega⟩ ?_
  · (apply Sub.mk; (focus (repeat (first | exact .nil | refine .other (.keep rfl rfl) ?_ | refine .other (.aref rfl rfl rfl) ?_ | refine .other (.val rfl (by first | rfl | (congr 1; first | omega | assumption | (symm; assumption)) | (simp; omega))) ?_ | refine .other .dead ?_ | refine .other (.sl rfl (.row _ _ _ _) rfl) ?_ | refine .other (.sl rfl (.sl _ _) rfl) ?_ | refine .other (.sl rfl (.full _ _) rfl) ?_ | refine .other (.slNil rfl rfl) ?_ | refine .rowNil rfl rfl rfl ?_ | refine .row rfl (by first | rfl | assumption | (rw [← List.map_append]; first | done | rfl | congr 1)) rfl rfl ?_))); (focus (repeat (first | exact .nil | refine KeepB.same rfl rfl rfl ?_ | refine KeepB.sameA rfl rfl rfl ?_))); (focus (repeat (first | exact .nil | refine KeepA.cons rfl (by first | rfl | assumption | exact List.map_set | exact List.map_set.symm | (rw [← List.map_append]; first | done | rfl | congr 1) | (congr 1; first | omega | assumption)) ?_))))
  rintro ⟨pre, a, f⟩ ⟨hw, hf, hp⟩
  dsimp only at hw hf hp ⊢
  by_cases hin : 0 ≤ a ∧ a < l.length
  · obtain ⟨h1, h2⟩ := hin
    obtain ⟨f, rfl⟩ : ∃ f', f = f' + 1 := ⟨f - 1, by have := hf h1 h2; omega⟩
    by_cases hfree : 0 ≤ (nx a).2
    · rw [wayG_free ⟨h1, h2⟩ hfree] at hw
      have hw' : wayG nx l.length F a0 = pre ++ [a] ++ [(nx a).2] := by rw [hw]; simp [behind]
      rw [hw']
      generalize hn1 : (nx a).1 = n1
      generalize hn2 : (nx a).2 = n2 at hfree ⊢
      repeat' (first | (refine CT.sub (S' := ⟨[(6, .row 6 3 1 ((pre ++ [a] ++ [n2]).map encI))], [], []⟩) ?_ (CT.ret ?_)) | refine CT.seqR ?_ | refine CT.region ?_ | refine CT.seq1 ?_ | refine CT.block ?_ | refine CT.condT rfl ?_ | refine CT.condF rfl ?_ | refine CT.condD rfl (fun _ => ?_) (fun _ => ?_) | refine CT.condN rfl (fun _ => ?_) (fun _ => ?_) | refine CT.cond rfl (fun _ => ?_) (fun _ => ?_) | refine CT.skip ?_ | refine CT.exit ?_ | refine CT.ret ?_ | refine LT.nil ?_ | refine HT.nil1 ?_ | (refine LT.consT ?_; (first | refine T.appNil (t := 94) (e := 3) (k := 1) (bytes := 8) rfl rfl srP (by kernel_rfl) szP (by decide) rfl ?_ | refine T.app (t := 94) (e := 3) (k := 1) (bytes := 8) rfl rfl srP (by kernel_rfl) szP (by decide) rfl rfl ?_)) | ((first | apply LT.cons1 | (apply LT.guard1; rfl; rfl; rfl; decide)); (first | exact OpH.callP (res := .tup [.val (.int .i64 n1), .val (.int .i64 n2)]) rfl rfl ⟨a, rfl, h1, h2, by rw [hn1, hn2]⟩ rfl | exact arm50_1); decide) | refine LT.skip1 rfl rfl rfl (by decide) (by decide) ?_ | refine LT.skip2 rfl rfl (by decide) (by decide) ?_ | refine LT.partD rfl rfl (fun _ => ?_) (fun _ => ?_) | refine LT.partN rfl rfl (fun _ => ?_) (fun _ => ?_) | (refine LT.part1 rfl rfl (fun h => ?_) (fun h => ?_); (fail_if_success exact absurd h (by decide)); rotate_left; (fail_if_success exact absurd h (by decide)); rotate_left))
      · rw [show List.map encI (pre ++ [a] ++ [n2]) = List.map encI (pre ++ [a]) ++ List.map encI [n2] from List.map_append]
        (apply Sub.mk; (focus (repeat (first | exact .nil | refine .other (.keep rfl rfl) ?_ | refine .other (.aref rfl rfl rfl) ?_ | refine .other (.val rfl (by first | rfl | (congr 1; first | omega | assumption | (symm; assumption)) | (simp; omega))) ?_ | refine .other .dead ?_ | refine .other (.sl rfl (.row _ _ _ _) rfl) ?_ | refine .other (.sl rfl (.sl _ _) rfl) ?_ | refine .other (.sl rfl (.full _ _) rfl) ?_ | refine .other (.slNil rfl rfl) ?_ | refine .rowNil rfl rfl rfl ?_ | refine .row rfl (by first | rfl | assumption | (rw [← List.map_append]; first | done | rfl | congr 1)) rfl rfl ?_))); (focus (repeat (first | exact .nil | refine KeepB.same rfl rfl rfl ?_ | refine KeepB.sameA rfl rfl rfl ?_))); (focus (repeat (first | exact .nil | refine KeepA.cons rfl (by first | rfl | assumption | exact List.map_set | exact List.map_set.symm | (rw [← List.map_append]; first | done | rfl | congr 1) | (congr 1; first | omega | assumption)) ?_))))
      · refine ⟨by first | exact .inl rfl | exact .inr rfl, _, (.cons (.tmp 6 (A := .row _ _ _ _) rfl (fun _ h => by cases h)) .nil), ?_, rfl⟩
        rfl
    · rw [wayG_far ⟨h1, h2⟩ hfree] at hw
      have hw' : wayG nx l.length F a0 = behind (pre ++ [a]) (wayG nx l.length f (nx a).1) := by
        rw [hw]
        cases wayG nx l.length f (nx a).1 with
        | nil => rfl
        | cons b w => simp [behind]
      have hm := hμ a h1 h2 hfree
      have hfa := hf h1 h2
      generalize hn1 : (nx a).1 = n1 at hw' hm
      generalize hn2 : (nx a).2 = n2 at hfree
      repeat' (first | refine CT.seqR ?_ | refine CT.region ?_ | refine CT.seq1 ?_ | refine CT.block ?_ | refine CT.condT rfl ?_ | refine CT.condF rfl ?_ | refine CT.condD rfl (fun _ => ?_) (fun _ => ?_) | refine CT.condN rfl (fun _ => ?_) (fun _ => ?_) | refine CT.cond rfl (fun _ => ?_) (fun _ => ?_) | refine CT.skip ?_ | refine CT.exit ?_ | refine CT.ret ?_ | refine LT.nil ?_ | refine HT.nil1 ?_ | (refine LT.consT ?_; (first | refine T.appNil (t := 94) (e := 3) (k := 1) (bytes := 8) rfl rfl srP (by kernel_rfl) szP (by decide) rfl ?_ | refine T.app (t := 94) (e := 3) (k := 1) (bytes := 8) rfl rfl srP (by kernel_rfl) szP (by decide) rfl rfl ?_)) | ((first | apply LT.cons1 | (apply LT.guard1; rfl; rfl; rfl; decide)); (first | exact OpH.callP (res := .tup [.val (.int .i64 n1), .val (.int .i64 n2)]) rfl rfl ⟨a, rfl, h1, h2, by rw [hn1, hn2]⟩ rfl | exact arm50_1); decide) | refine LT.skip1 rfl rfl rfl (by decide) (by decide) ?_ | refine LT.skip2 rfl rfl (by decide) (by decide) ?_ | refine LT.partD rfl rfl (fun _ => ?_) (fun _ => ?_) | refine LT.partN rfl rfl (fun _ => ?_) (fun _ => ?_) | (refine LT.part1 rfl rfl (fun h => ?_) (fun h => ?_); (fail_if_success exact absurd h (by decide)); rotate_left; (fail_if_success exact absurd h (by decide)); rotate_left))
      refine ⟨(pre ++ [a], n1, f), ⟨hw', fun q1 q2 => ?_, ?_⟩, by dsimp only; omega, ?_⟩
      · have := hm q1 q2
        dsimp only at *
        omega
      · simp only [List.length_append, List.length_singleton]; omega
      · dsimp only
        (apply Sub.mk; (focus (repeat (first | exact .nil | refine .other (.keep rfl rfl) ?_ | refine .other (.aref rfl rfl rfl) ?_ | refine .other (.val rfl (by first | rfl | (congr 1; first | omega | assumption | (symm; assumption)) | (simp; omega))) ?_ | refine .other .dead ?_ | refine .other (.sl rfl (.row _ _ _ _) rfl) ?_ | refine .other (.sl rfl (.sl _ _) rfl) ?_ | refine .other (.sl rfl (.full _ _) rfl) ?_ | refine .other (.slNil rfl rfl) ?_ | refine .rowNil rfl rfl rfl ?_ | refine .row rfl (by first | rfl | assumption | (rw [← List.map_append]; first | done | rfl | congr 1)) rfl rfl ?_))); (focus (repeat (first | exact .nil | refine KeepB.same rfl rfl rfl ?_ | refine KeepB.sameA rfl rfl rfl ?_))); (focus (repeat (first | exact .nil | refine KeepA.cons rfl (by first | rfl | assumption | exact List.map_set | exact List.map_set.symm | (rw [← List.map_append]; first | done | rfl | congr 1) | (congr 1; first | omega | assumption)) ?_))))
  · rw [wayG_out hin] at hw
    have hw' : wayG nx l.length F a0 = [] := hw
    rw [hw']
    have hcase : a < 0 ∨ (0 ≤ a ∧ (l.length : Int) ≤ a) := by omega
    rcases hcase with h | ⟨h, h'⟩
    all_goals
      repeat' (first | (refine CT.sub (S' := ⟨[(6, .row 6 3 1 (([] : List Int).map encI))], [], []⟩) ?_ (CT.ret ?_)) | refine CT.seqR ?_ | refine CT.region ?_ | refine CT.seq1 ?_ | refine CT.block ?_ | refine CT.condT rfl ?_ | refine CT.condF rfl ?_ | refine CT.condD rfl (fun _ => ?_) (fun _ => ?_) | refine CT.condN rfl (fun _ => ?_) (fun _ => ?_) | refine CT.cond rfl (fun _ => ?_) (fun _ => ?_) | refine CT.skip ?_ | refine CT.exit ?_ | refine CT.ret ?_ | refine LT.nil ?_ | refine HT.nil1 ?_ | (refine LT.consT ?_; (first | refine T.appNil (t := 94) (e := 3) (k := 1) (bytes := 8) rfl rfl srP (by kernel_rfl) szP (by decide) rfl ?_ | refine T.app (t := 94) (e := 3) (k := 1) (bytes := 8) rfl rfl srP (by kernel_rfl) szP (by decide) rfl rfl ?_)) | ((first | apply LT.cons1 | (apply LT.guard1; rfl; rfl; rfl; decide)); (first | exact arm50_1); decide) | refine LT.skip1 rfl rfl rfl (by decide) (by decide) ?_ | refine LT.skip2 rfl rfl (by decide) (by decide) ?_ | refine LT.partD rfl rfl (fun _ => ?_) (fun _ => ?_) | refine LT.partN rfl rfl (fun _ => ?_) (fun _ => ?_) | (refine LT.part1 rfl rfl (fun h => ?_) (fun h => ?_); (fail_if_success exact absurd h (by decide)); rotate_left; (fail_if_success exact absurd h (by decide)); rotate_left))
      · (apply Sub.mk; (focus (repeat (first | exact .nil | refine .other (.keep rfl rfl) ?_ | refine .other (.aref rfl rfl rfl) ?_ | refine .other (.val rfl (by first | rfl | (congr 1; first | omega | assumption | (symm; assumption)) | (simp; omega))) ?_ | refine .other .dead ?_ | refine .other (.sl rfl (.row _ _ _ _) rfl) ?_ | refine .other (.sl rfl (.sl _ _) rfl) ?_ | refine .other (.sl rfl (.full _ _) rfl) ?_ | refine .other (.slNil rfl rfl) ?_ | refine .rowNil rfl rfl rfl ?_ | refine .row rfl (by first | rfl | assumption | (rw [← List.map_append]; first | done | rfl | congr 1)) rfl rfl ?_))); (focus (repeat (first | exact .nil | refine KeepB.same rfl rfl rfl ?_ | refine KeepB.sameA rfl rfl rfl ?_))); (focus (repeat (first | exact .nil | refine KeepA.cons rfl (by first | rfl | assumption | exact List.map_set | exact List.map_set.symm | (rw [← List.map_append]; first | done | rfl | congr 1) | (congr 1; first | omega | assumption)) ?_))))
      · refine ⟨by first | exact .inl rfl | exact .inr rfl, _, (.cons (.tmp 6 (A := .row _ _ _ _) rfl (fun _ h => by cases h)) .nil), ?_, rfl⟩
        rfl
theorem arm51_1 {p : Prop} (h : p := by first | exact OpH.assign (v := .val _) rfl | exact OpH.assign (v := .sl _ _) rfl | exact OpH.assign (v := .row _ _ _ _) rfl | exact OpH.assign (v := .full _ _) rfl | exact OpH.assign (v := .ptr _ _) rfl | exact OpH.assign (v := .cptr _) rfl | exact OpH.assign (v := .cloB _ _) rfl | exact OpH.assign (v := .clo _ _) rfl | exact OpH.assign (v := .pr _) rfl | exact OpH.assign (v := .arow _) rfl | exact OpH.assign (v := .aptr _ _ _ _) rfl | exact OpH.assign (v := .asub _ _ _ _) rfl | exact OpH.assign (v := .tup _) rfl | exact OpH.loadC1 (t := 22) rfl (by kernel_rfl) rfl | exact OpH.loadB1 (t := 22) rfl rfl (by kernel_rfl) rfl | exact OpH.move (v := .val _) rfl | exact OpH.move (v := .sl _ _) rfl | exact OpH.move (v := .row _ _ _ _) rfl | exact OpH.move (v := .full _ _) rfl | exact OpH.move (v := .ptr _ _) rfl | exact OpH.move (v := .cptr _) rfl | exact OpH.move (v := .cloB _ _) rfl | exact OpH.move (v := .clo _ _) rfl | exact OpH.move (v := .pr _) rfl | exact OpH.move (v := .arow _) rfl | exact OpH.move (v := .aptr _ _ _ _) rfl | exact OpH.move (v := .asub _ _ _ _) rfl | exact OpH.move (v := .tup _) rfl | exact OpH.bin rfl rfl (pb_inc (by omega)) | exact OpH.bin rfl rfl (pb_addN rfl (by omega)) | exact OpH.bin rfl rfl (pb_add (by omega)) | exact OpH.bin rfl rfl (pb_addw) | exact OpH.indexS (t := 22) (k := 7) rfl slP rfl rfl (by kernel_rfl) (map_at bd) rfl | exact OpH.fieldC (s := 61) (f := 1) (off := 1) rfl (by kernel_rfl) rfl | exact OpH.fieldB (s := 61) (f := 1) (off := 1) rfl (by kernel_rfl) rfl | exact loadC6 (t := 29) rfl (by kernel_rfl) | exact loadB6 (t := 29) rfl rfl (by kernel_rfl) rfl) : p := h
set_option maxRecDepth 100000 in
set_option maxHeartbeats 2000000 in
theorem g_ins1 (l : List Slt) (hl : l.length ≤ 65536) (k : Nat) (hk : k < l.length) : Good Try.prog 51 [.val (.int .i64 k), .pr (PSl 7 (l.map encS))] (.tup [.val (.int .i64 (nextB l k).1), .val (.int .i64 (nextB l k).2)]) := by
  have e1 : (nextB l k).1 = (loF l (nth l k).e (k + 1) : Int) := by unfold nextB; simp only [Int.toNat_natCast]
  have e2 : (nextB l k).2 = emFirst l (k + 1) (loF l (nth l k).e (k + 1)) := by unfold nextB; simp only [Int.toNat_natCast]
  rw [e1, e2]
  obtain ⟨s, hs⟩ : ∃ s, l[k] = s := ⟨_, rfl⟩
  have hat := slot_at hk hs
  rw [nth_is hk hs]
  obtain ⟨q1, q2, _, _⟩ := loF_spec l s.e (show k + 1 ≤ l.length by omega)
  have gL := g_lowest l s.e (k + 1) (by omega) hl
  have gE := g_emptyF l (k + 1) (loF l s.e (k + 1)) q1 q2 hl
  generalize loF l s.e (k + 1) = far at q1 q2 gL gE ⊢
  refine Good.of_body (T := [(0, _), (1, _)]) Try.func51 rfl rfl rfl ?_
  intro K0 w0 hno
  repeat' (first | refine CT.seqR ?_ | refine CT.seqD (id := 1) 9 (by kernel_rfl) (by kernel_rfl) ?_ | refine CT.draw (id := 1) 9 (by kernel_rfl) (by kernel_rfl) ?_ | refine CT.region ?_ | refine CT.seq1 ?_ | refine CT.block ?_ | refine CT.condT rfl ?_ | refine CT.condF rfl ?_ | refine CT.condD rfl (fun _ => ?_) (fun _ => ?_) | refine CT.condN rfl (fun _ => ?_) (fun _ => ?_) | refine CT.cond rfl (fun _ => ?_) (fun _ => ?_) | refine CT.skip ?_ | refine CT.exit ?_ | refine CT.ret ?_ | refine LT.nil ?_ | refine HT.nil1 ?_ | ((first | apply LT.cons1 | apply HT.cons1); (first | exact OpH.loadP rfl (by kernel_rfl) | exact OpH.indexS (t := 22) (k := 7) (j := k) rfl slP rfl rfl (by kernel_rfl) hat rfl | exact OpH.callF Try.func52 rfl rfl rfl gL rfl | exact OpH.callF Try.func48 rfl rfl rfl gE rfl | exact arm51_1); (try decide)))
  refine ⟨by first | exact .inl rfl | exact .inr rfl, _, (.cons (.tmp 3 (A := .val _) rfl (fun _ h => by cases h)) (.cons (.tmp 4 (A := .val _) rfl (fun _ h => by cases h)) .nil)), ?_, rfl⟩
  rfl
theorem arm53_1 {p : Prop} (h : p := by first | exact OpH.assign (v := .val _) rfl | exact OpH.assign (v := .sl _ _) rfl | exact OpH.assign (v := .row _ _ _ _) rfl | exact OpH.assign (v := .full _ _) rfl | exact OpH.assign (v := .ptr _ _) rfl | exact OpH.assign (v := .cptr _) rfl | exact OpH.assign (v := .cloB _ _) rfl | exact OpH.assign (v := .clo _ _) rfl | exact OpH.assign (v := .pr _) rfl | exact OpH.assign (v := .arow _) rfl | exact OpH.assign (v := .aptr _ _ _ _) rfl | exact OpH.assign (v := .asub _ _ _ _) rfl | exact OpH.assign (v := .tup _) rfl | exact OpH.loadC1 (t := 22) rfl (by kernel_rfl) rfl | exact OpH.loadB1 (t := 22) rfl rfl (by kernel_rfl) rfl | exact OpH.move (v := .val _) rfl | exact OpH.move (v := .sl _ _) rfl | exact OpH.move (v := .row _ _ _ _) rfl | exact OpH.move (v := .full _ _) rfl | exact OpH.move (v := .ptr _ _) rfl | exact OpH.move (v := .cptr _) rfl | exact OpH.move (v := .cloB _ _) rfl | exact OpH.move (v := .clo _ _) rfl | exact OpH.move (v := .pr _) rfl | exact OpH.move (v := .arow _) rfl | exact OpH.move (v := .aptr _ _ _ _) rfl | exact OpH.move (v := .asub _ _ _ _) rfl | exact OpH.move (v := .tup _) rfl | exact OpH.indexS (t := 22) (k := 7) rfl slP rfl rfl (by kernel_rfl) (map_at bd) rfl | exact OpH.fieldC (s := 61) (f := 1) (off := 1) rfl (by kernel_rfl) rfl | exact OpH.fieldB (s := 61) (f := 1) (off := 1) rfl (by kernel_rfl) rfl | exact loadC6 (t := 29) rfl (by kernel_rfl) | exact loadB6 (t := 29) rfl rfl (by kernel_rfl) rfl | exact OpH.bin rfl rfl (pb_inc (by omega)) | exact OpH.bin rfl rfl (pb_addN rfl (by omega)) | exact OpH.bin rfl rfl (pb_add (by omega)) | exact OpH.bin rfl rfl (pb_addw)) : p := h
set_option maxRecDepth 100000 in
set_option maxHeartbeats 2000000 in
theorem g_ins2 (l : List Slt) (hl : l.length ≤ 65536) (k : Nat) (hk : k < l.length) : Good Try.prog 53 [.val (.int .i64 k), .pr (PSl 7 (l.map encS))] (.tup [.val (.int .i64 (nextA l k).1), .val (.int .i64 (nextA l k).2)]) := by
  have e1 : (nextA l k).1 = hiF l (nth l k).e k := by unfold nextA; simp only [Int.toNat_natCast]
  have e2 : (nextA l k).2 = emLast l (hiF l (nth l k).e k + 1).toNat k := by unfold nextA; simp only [Int.toNat_natCast]
  rw [e1, e2]
  obtain ⟨s, hs⟩ : ∃ s, l[k] = s := ⟨_, rfl⟩
  have hat := slot_at hk hs
  rw [nth_is hk hs]
  have qb := lastTo_bound (hiP l s.e) k
  have hq : hiF l s.e k = lastTo (hiP l s.e) k := rfl
  have gL := g_highest l s.e k (by omega) hl
  have gE := g_emptyL l (hiF l s.e k + 1).toNat k (by omega) (by omega) hl
  rw [Int.toNat_of_nonneg (show 0 ≤ hiF l s.e k + 1 by omega)] at gE
  have hb : -1 ≤ hiF l s.e k ∧ hiF l s.e k < k := by omega
  generalize emLast l (hiF l s.e k + 1).toNat k = fr at gE ⊢
  generalize hiF l s.e k = far at gL gE hb ⊢
  refine Good.of_body (T := [(0, _), (1, _)]) Try.func53 rfl rfl rfl ?_
  intro K0 w0 hno
  repeat' (first | refine CT.seqR ?_ | refine CT.seqD (id := 1) 8 (by kernel_rfl) (by kernel_rfl) ?_ | refine CT.draw (id := 1) 8 (by kernel_rfl) (by kernel_rfl) ?_ | refine CT.region ?_ | refine CT.seq1 ?_ | refine CT.block ?_ | refine CT.condT rfl ?_ | refine CT.condF rfl ?_ | refine CT.condD rfl (fun _ => ?_) (fun _ => ?_) | refine CT.condN rfl (fun _ => ?_) (fun _ => ?_) | refine CT.cond rfl (fun _ => ?_) (fun _ => ?_) | refine CT.skip ?_ | refine CT.exit ?_ | refine CT.ret ?_ | refine LT.nil ?_ | refine HT.nil1 ?_ | ((first | apply LT.cons1 | apply HT.cons1); (first | exact OpH.loadP rfl (by kernel_rfl) | exact OpH.indexS (t := 22) (k := 7) (j := k) rfl slP rfl rfl (by kernel_rfl) hat rfl | exact OpH.callF Try.func54 rfl rfl rfl gL rfl | exact OpH.callF Try.func48 rfl rfl rfl gE rfl | exact arm53_1); (try decide)))
  refine ⟨by first | exact .inl rfl | exact .inr rfl, _, (.cons (.tmp 3 (A := .val _) rfl (fun _ h => by cases h)) (.cons (.tmp 4 (A := .val _) rfl (fun _ h => by cases h)) .nil)), ?_, rfl⟩
  rfl
theorem spec1 (l : List Slt) (hl : l.length ≤ 65536) : ∀ As res, NextIs (nextB l) l.length As res → Good Try.prog 51 (As ++ [.pr (PSl 7 (l.map encS))]) res := by
  rintro As res ⟨a, rfl, h0, h1, rfl⟩
  obtain ⟨k, rfl⟩ : ∃ k : Nat, a = k := ⟨a.toNat, by omega⟩
  exact g_ins1 l hl k (by omega)
theorem spec2 (l : List Slt) (hl : l.length ≤ 65536) : ∀ As res, NextIs (nextA l) l.length As res → Good Try.prog 53 (As ++ [.pr (PSl 7 (l.map encS))]) res := by
  rintro As res ⟨a, rfl, h0, h1, rfl⟩
  obtain ⟨k, rfl⟩ : ∃ k : Nat, a = k := ⟨a.toNat, by omega⟩
  exact g_ins2 l hl k (by omega)
theorem g_walkB (l : List Slt) (a0 : Int) (h0 : 0 ≤ a0) (hl : l.length ≤ 65536) : Good Try.prog 50 [.sl 7 (l.map encS), .val (.int .i64 a0), .pr (FnIs Try.prog (NextIs (nextB l) l.length))] (.row 6 3 1 ((wayB l a0).map encI)) :=
  g_walk l (nextB l) (fun a => l.length - a.toNat) (l.length + 1) a0 (by omega) (fun _ _ => by omega) (fun a h1 h2 _ h3 h4 => by
    have := nextB_bound l h1 h2
    omega) hl
theorem g_walkA (l : List Slt) (a0 : Int) (hl : l.length ≤ 65536) : Good Try.prog 50 [.sl 7 (l.map encS), .val (.int .i64 a0), .pr (FnIs Try.prog (NextIs (nextA l) l.length))] (.row 6 3 1 ((wayA l a0).map encI)) :=
  g_walk l (nextA l) (fun a => a.toNat) (l.length + 1) a0 (by omega) (fun _ _ => by omega) (fun a h1 h2 _ h3 h4 => by
    have := nextA_bound l h1 h2
    omega) hl
end Go.Proofs.Ytjmnnkhdadoehaa

/- law08 and law12: slots and writes as the document has them; ref08, ref13: what the document's answer does, first part. -/
namespace Go.Proofs.Ytjmnnkhdadoehaa
set_option linter.unusedSimpArgs false
set_option linter.unusedVariables false
open Go Go.RowKit Go.Shelf
attribute [local irreducible] OpH OpT LT CT HT Good
theorem arm47_1 {p : Prop} (h : p := by first | exact OpH.fieldC (s := 61) (f := 0) (off := 0) rfl (by kernel_rfl) rfl | exact OpH.fieldB (s := 61) (f := 0) (off := 0) rfl (by kernel_rfl) rfl | exact OpH.loadC1 (t := 4) rfl (by kernel_rfl) rfl | exact OpH.loadB1 (t := 4) rfl rfl (by kernel_rfl) rfl | exact OpH.fieldC (s := 61) (f := 1) (off := 1) rfl (by kernel_rfl) rfl | exact OpH.fieldB (s := 61) (f := 1) (off := 1) rfl (by kernel_rfl) rfl | exact loadC6 (t := 29) rfl (by kernel_rfl) | exact loadB6 (t := 29) rfl rfl (by kernel_rfl) rfl | exact OpH.callF Try.func16 rfl rfl rfl (g_law5One _ _ _ _ _ _) rfl | exact build_90_0_1 rfl rfl | exact OpH.build (t := 90) (cells := #[_, _, _, _, _, _, _]) (by kernel_rfl) rfl) : p := h
set_option maxRecDepth 100000 in
set_option maxHeartbeats 2000000 in
theorem g_law8One (s : Slt) : Good Try.prog 47 [.val (.agg #[.bool s.valid, .int .u64 s.e.w.v.x, .int .u64 s.e.w.v.y, .int .u64 s.e.w.m.x, .int .u64 s.e.w.m.y, .int .i64 s.e.len, .int .i64 s.e.act])] (.val (.agg #[.bool s.valid, .int .u64 s.e.w.v.x, .int .u64 s.e.w.v.y, .int .u64 s.e.w.m.x, .int .u64 s.e.w.m.y, .int .i64 s.e.len, .int .i64 s.e.act])) := by
  have g5 := g_law5One s.e.w.v.x s.e.w.v.y s.e.w.m.x s.e.w.m.y s.e.len s.e.act
  refine Good.of_body (T := [(0, _)]) Try.func47 rfl rfl rfl ?_
  intro K0 w0 hno
  repeat' (first | refine CT.seqR ?_ | refine CT.seqD (id := 1) 6 (by kernel_rfl) (by kernel_rfl) ?_ | refine CT.draw (id := 1) 6 (by kernel_rfl) (by kernel_rfl) ?_ | refine CT.region ?_ | refine CT.seq1 ?_ | refine CT.block ?_ | refine CT.condT rfl ?_ | refine CT.condF rfl ?_ | refine CT.condD rfl (fun _ => ?_) (fun _ => ?_) | refine CT.condN rfl (fun _ => ?_) (fun _ => ?_) | refine CT.cond rfl (fun _ => ?_) (fun _ => ?_) | refine CT.skip ?_ | refine CT.exit ?_ | refine CT.ret ?_ | refine LT.nil ?_ | refine HT.nil1 ?_ | (refine LT.consT ?_; (first | refine T.box (e := 61) (cs := [.val _, .val _, .val _, .val _, .val _, .val _, .val _]) rfl rfl (by decide) rfl rfl ?_ | refine T.alloc (e := 90) (z := .agg #[.bool false, .int .u64 0, .int .u64 0, .int .u64 0, .int .u64 0, .int .i64 0, .int .i64 0]) (cs := [.val (.bool false), .val (.int .u64 0), .val (.int .u64 0), .val (.int .u64 0), .val (.int .u64 0), .val (.int .i64 0), .val (.int .i64 0)]) (by kernel_rfl) rfl (by decide) rfl rfl ?_ | refine T.store (t := 90) rfl rfl rfl (by kernel_rfl) (by kernel_rfl) (Nat.le_of_ble_eq_true (by kernel_rfl)) rfl rfl ?_)) | ((first | apply LT.cons1 | apply HT.cons1); (first | exact OpH.callF Try.func16 rfl rfl rfl g5 rfl | exact arm47_1); (try decide)))
  refine ⟨by first | exact .inl rfl | exact .inr rfl, _, (.cons (.many 2 (vs := [_, _, _, _, _, _, _]) rfl rfl (by kernel_rfl) rfl rfl) .nil), ?_, rfl⟩
  rfl
theorem arm13_1 {p : Prop} (h : p := by first | exact OpH.assign (v := .val _) rfl | exact OpH.assign (v := .sl _ _) rfl | exact OpH.assign (v := .row _ _ _ _) rfl | exact OpH.assign (v := .full _ _) rfl | exact OpH.assign (v := .ptr _ _) rfl | exact OpH.assign (v := .cptr _) rfl | exact OpH.assign (v := .cloB _ _) rfl | exact OpH.assign (v := .clo _ _) rfl | exact OpH.assign (v := .pr _) rfl | exact OpH.assign (v := .arow _) rfl | exact OpH.assign (v := .aptr _ _ _ _) rfl | exact OpH.assign (v := .asub _ _ _ _) rfl | exact OpH.assign (v := .tup _) rfl | exact OpH.move (v := .val _) rfl | exact OpH.move (v := .sl _ _) rfl | exact OpH.move (v := .row _ _ _ _) rfl | exact OpH.move (v := .full _ _) rfl | exact OpH.move (v := .ptr _ _) rfl | exact OpH.move (v := .cptr _) rfl | exact OpH.move (v := .cloB _ _) rfl | exact OpH.move (v := .clo _ _) rfl | exact OpH.move (v := .pr _) rfl | exact OpH.move (v := .arow _) rfl | exact OpH.move (v := .aptr _ _ _ _) rfl | exact OpH.move (v := .asub _ _ _ _) rfl | exact OpH.move (v := .tup _) rfl | exact OpH.lenM (t := 22) rfl (.sl _ _) (by kernel_rfl) | exact OpH.lenM (t := 22) rfl (.row _ _ _ _) (by kernel_rfl) | exact OpH.lenM (t := 22) rfl (.full _ _) (by kernel_rfl) | exact OpH.len (t := 22) rfl slP (by kernel_rfl) | exact OpH.lenNil (t := 22) rfl (by kernel_rfl) | exact OpH.bin rfl rfl (pb_lss_t (by omega)) | exact OpH.bin rfl rfl (pb_lss_f (by omega)) | exact OpH.bin rfl rfl (pb_lss) | exact OpH.indexS (t := 22) (k := 7) rfl slP rfl rfl (by kernel_rfl) (map_at bd) rfl | exact loadC7 (t := 61) rfl (by kernel_rfl) | exact loadB7 (t := 61) rfl rfl (by kernel_rfl) rfl | exact lit_31_1 rfl | exact OpH.bin rfl rfl (pb_inc (by omega)) | exact OpH.bin rfl rfl (pb_addN rfl (by omega)) | exact OpH.bin rfl rfl (pb_add (by omega)) | exact OpH.bin rfl rfl (pb_addw)) : p := h
set_option maxRecDepth 100000 in
set_option maxHeartbeats 2000000 in
theorem g_law8Of (l : List Slt) (hl : l.length ≤ 4096) : Good Try.prog 13 [.sl 7 (l.map encS)] (.row 3 90 7 (l.map encS)) := by
  refine Good.of_body (T := [(0, _)]) Try.func13 rfl rfl rfl ?_
  intro K0 w0 hno
  repeat' (first | refine CT.seqR ?_ | refine CT.region ?_ | refine CT.seq1 ?_ | refine CT.block ?_ | refine CT.condT rfl ?_ | refine CT.condF rfl ?_ | refine CT.condD rfl (fun _ => ?_) (fun _ => ?_) | refine CT.condN rfl (fun _ => ?_) (fun _ => ?_) | refine CT.cond rfl (fun _ => ?_) (fun _ => ?_) | refine CT.skip ?_ | refine CT.exit ?_ | refine CT.ret ?_ | refine LT.nil ?_ | refine HT.nil1 ?_ | (refine LT.consT ?_; (first | refine T.alloc (e := 61) (z := .agg #[.bool false, .int .u64 0, .int .u64 0, .int .u64 0, .int .u64 0, .int .i64 0, .int .i64 0]) (cs := [.val (.bool false), .val (.int .u64 0), .val (.int .u64 0), .val (.int .u64 0), .val (.int .u64 0), .val (.int .i64 0), .val (.int .i64 0)]) (by kernel_rfl) rfl (by decide) rfl rfl ?_ | refine T.store (t := 61) rfl rfl rfl (by kernel_rfl) (by kernel_rfl) (Nat.le_of_ble_eq_true (by kernel_rfl)) rfl rfl ?_ | refine T.appNil (t := 31) (e := 90) (k := 7) (bytes := 56) rfl rfl srP (by kernel_rfl) szP (by decide) rfl ?_ | refine T.app (t := 31) (e := 90) (k := 7) (bytes := 56) rfl rfl srP (by kernel_rfl) szP (by decide) rfl rfl ?_)) | (apply LT.cons1; (first | exact arm13_1); decide))
  refine CT.loopX (fun k : Nat => (⟨[(3, .row 3 90 7 ((l.take k).map encS)), (6, .sl 7 (l.map encS)), (7, .val (.int .i64 l.length)), (8, .val (.int .i64 k))], [], []⟩ : St))
    (fun k => k ≤ l.length) (fun k => l.length - k) 0 ?_ (by omega) ?_
  · rw [List.take_zero]
    (apply Sub.mk; (focus (repeat (first | exact .nil | refine .other (.keep rfl rfl) ?_ | refine .other (.aref rfl rfl rfl) ?_ | refine .other (.val rfl (by first | rfl | (congr 1; first | omega | assumption | (symm; assumption)) | (simp; omega))) ?_ | refine .other .dead ?_ | refine .other (.sl rfl (.row _ _ _ _) rfl) ?_ | refine .other (.sl rfl (.sl _ _) rfl) ?_ | refine .other (.sl rfl (.full _ _) rfl) ?_ | refine .other (.slNil rfl rfl) ?_ | refine .rowNil rfl rfl rfl ?_ | refine .row rfl (by first | rfl | assumption | (rw [← List.map_append]; first | done | rfl | congr 1)) rfl rfl ?_))); (focus (repeat (first | exact .nil | refine KeepB.same rfl rfl rfl ?_ | refine KeepB.sameA rfl rfl rfl ?_))); (focus (repeat (first | exact .nil | refine KeepA.cons rfl (by first | rfl | assumption | exact List.map_set | exact List.map_set.symm | (rw [← List.map_append]; first | done | rfl | congr 1) | (congr 1; first | omega | assumption)) ?_))))
  rintro k hk
  by_cases hlt : k < l.length
  · have hkl : (l.take k).length = k := by rw [List.length_take]; omega
    have gO := g_law8One l[k]
    repeat' (first | refine CT.seqR ?_ | refine CT.region ?_ | refine CT.seq1 ?_ | refine CT.block ?_ | refine CT.condT rfl ?_ | refine CT.condF rfl ?_ | refine CT.condD rfl (fun _ => ?_) (fun _ => ?_) | refine CT.condN rfl (fun _ => ?_) (fun _ => ?_) | refine CT.cond rfl (fun _ => ?_) (fun _ => ?_) | refine CT.skip ?_ | refine CT.exit ?_ | refine CT.ret ?_ | refine LT.nil ?_ | refine HT.nil1 ?_ | (refine LT.consT ?_; (first | refine T.alloc (e := 61) (z := .agg #[.bool false, .int .u64 0, .int .u64 0, .int .u64 0, .int .u64 0, .int .i64 0, .int .i64 0]) (cs := [.val (.bool false), .val (.int .u64 0), .val (.int .u64 0), .val (.int .u64 0), .val (.int .u64 0), .val (.int .i64 0), .val (.int .i64 0)]) (by kernel_rfl) rfl (by decide) rfl rfl ?_ | refine T.store (t := 61) rfl rfl rfl (by kernel_rfl) (by kernel_rfl) (Nat.le_of_ble_eq_true (by kernel_rfl)) rfl rfl ?_ | refine T.appNil (t := 31) (e := 90) (k := 7) (bytes := 56) rfl rfl srP (by kernel_rfl) szP (by decide) rfl ?_ | refine T.app (t := 31) (e := 90) (k := 7) (bytes := 56) rfl rfl srP (by kernel_rfl) szP (by decide) rfl rfl ?_)) | (apply LT.cons1; (first | exact OpH.callF Try.func47 rfl rfl rfl gO rfl | exact arm13_1); decide))
    refine ⟨k + 1, by omega, by omega, ?_⟩
    rw [List.take_succ_eq_append_getElem hlt]
    (apply Sub.mk; (focus (repeat (first | exact .nil | refine .other (.keep rfl rfl) ?_ | refine .other (.aref rfl rfl rfl) ?_ | refine .other (.val rfl (by first | rfl | (congr 1; first | omega | assumption | (symm; assumption)) | (simp; omega))) ?_ | refine .other .dead ?_ | refine .other (.sl rfl (.row _ _ _ _) rfl) ?_ | refine .other (.sl rfl (.sl _ _) rfl) ?_ | refine .other (.sl rfl (.full _ _) rfl) ?_ | refine .other (.slNil rfl rfl) ?_ | refine .rowNil rfl rfl rfl ?_ | refine .row rfl (by first | rfl | assumption | (rw [← List.map_append]; first | done | rfl | congr 1)) rfl rfl ?_))); (focus (repeat (first | exact .nil | refine KeepB.same rfl rfl rfl ?_ | refine KeepB.sameA rfl rfl rfl ?_))); (focus (repeat (first | exact .nil | refine KeepA.cons rfl (by first | rfl | assumption | exact List.map_set | exact List.map_set.symm | (rw [← List.map_append]; first | done | rfl | congr 1) | (congr 1; first | omega | assumption)) ?_))))
  · obtain rfl : k = l.length := by omega
    repeat' (first | refine CT.seqR ?_ | refine CT.region ?_ | refine CT.seq1 ?_ | refine CT.block ?_ | refine CT.condT rfl ?_ | refine CT.condF rfl ?_ | refine CT.condD rfl (fun _ => ?_) (fun _ => ?_) | refine CT.condN rfl (fun _ => ?_) (fun _ => ?_) | refine CT.cond rfl (fun _ => ?_) (fun _ => ?_) | refine CT.skip ?_ | refine CT.exit ?_ | refine CT.ret ?_ | refine LT.nil ?_ | refine HT.nil1 ?_ | (refine LT.consT ?_; (first | refine T.alloc (e := 61) (z := .agg #[.bool false, .int .u64 0, .int .u64 0, .int .u64 0, .int .u64 0, .int .i64 0, .int .i64 0]) (cs := [.val (.bool false), .val (.int .u64 0), .val (.int .u64 0), .val (.int .u64 0), .val (.int .u64 0), .val (.int .i64 0), .val (.int .i64 0)]) (by kernel_rfl) rfl (by decide) rfl rfl ?_ | refine T.store (t := 61) rfl rfl rfl (by kernel_rfl) (by kernel_rfl) (Nat.le_of_ble_eq_true (by kernel_rfl)) rfl rfl ?_ | refine T.appNil (t := 31) (e := 90) (k := 7) (bytes := 56) rfl rfl srP (by kernel_rfl) szP (by decide) rfl ?_ | refine T.app (t := 31) (e := 90) (k := 7) (bytes := 56) rfl rfl srP (by kernel_rfl) szP (by decide) rfl rfl ?_)) | (apply LT.cons1; (first | exact arm13_1); decide))
    refine ⟨by first | exact .inl rfl | exact .inr rfl, _, (.cons (.tmp 2 (A := .row _ _ _ _) rfl (fun _ h => by cases h)) .nil), ?_, rfl⟩
    rw [List.take_length]
    rfl
theorem arm60_1 {p : Prop} (h : p := by first | exact OpH.assign (v := .val _) rfl | exact OpH.assign (v := .sl _ _) rfl | exact OpH.assign (v := .row _ _ _ _) rfl | exact OpH.assign (v := .full _ _) rfl | exact OpH.assign (v := .ptr _ _) rfl | exact OpH.assign (v := .cptr _) rfl | exact OpH.assign (v := .cloB _ _) rfl | exact OpH.assign (v := .clo _ _) rfl | exact OpH.assign (v := .pr _) rfl | exact OpH.assign (v := .arow _) rfl | exact OpH.assign (v := .aptr _ _ _ _) rfl | exact OpH.assign (v := .asub _ _ _ _) rfl | exact OpH.assign (v := .tup _) rfl | exact OpH.move (v := .val _) rfl | exact OpH.move (v := .sl _ _) rfl | exact OpH.move (v := .row _ _ _ _) rfl | exact OpH.move (v := .full _ _) rfl | exact OpH.move (v := .ptr _ _) rfl | exact OpH.move (v := .cptr _) rfl | exact OpH.move (v := .cloB _ _) rfl | exact OpH.move (v := .clo _ _) rfl | exact OpH.move (v := .pr _) rfl | exact OpH.move (v := .arow _) rfl | exact OpH.move (v := .aptr _ _ _ _) rfl | exact OpH.move (v := .asub _ _ _ _) rfl | exact OpH.move (v := .tup _) rfl | exact OpH.lenM (t := 33) rfl (.sl _ _) (by kernel_rfl) | exact OpH.lenM (t := 33) rfl (.row _ _ _ _) (by kernel_rfl) | exact OpH.lenM (t := 33) rfl (.full _ _) (by kernel_rfl) | exact OpH.len (t := 33) rfl slP (by kernel_rfl) | exact OpH.lenNil (t := 33) rfl (by kernel_rfl) | exact OpH.bin rfl rfl (pb_lss_t (by omega)) | exact OpH.bin rfl rfl (pb_lss_f (by omega)) | exact OpH.bin rfl rfl (pb_lss) | exact OpH.indexS (t := 33) (k := 8) rfl slP rfl rfl (by kernel_rfl) (map_at bd) rfl | exact loadC8 (t := 64) rfl (by kernel_rfl) | exact loadB8 (t := 64) rfl rfl (by kernel_rfl) rfl | exact OpH.fieldC (s := 64) (f := 0) (off := 0) rfl (by kernel_rfl) rfl | exact OpH.fieldB (s := 64) (f := 0) (off := 0) rfl (by kernel_rfl) rfl | exact OpH.loadC1 (t := 3) rfl (by kernel_rfl) rfl | exact OpH.loadB1 (t := 3) rfl rfl (by kernel_rfl) rfl | exact OpH.fieldC (s := 64) (f := 1) (off := 1) rfl (by kernel_rfl) rfl | exact OpH.fieldB (s := 64) (f := 1) (off := 1) rfl (by kernel_rfl) rfl | exact loadC7 (t := 61) rfl (by kernel_rfl) | exact loadB7 (t := 61) rfl rfl (by kernel_rfl) rfl | exact build_104_0_1 rfl rfl | exact OpH.build (t := 104) (cells := #[_, _, _, _, _, _, _, _]) (by kernel_rfl) rfl | exact lit_37_1 rfl | exact OpH.bin rfl rfl (pb_inc (by omega)) | exact OpH.bin rfl rfl (pb_addN rfl (by omega)) | exact OpH.bin rfl rfl (pb_add (by omega)) | exact OpH.bin rfl rfl (pb_addw)) : p := h
set_option maxRecDepth 100000 in
set_option maxHeartbeats 2000000 in
theorem g_law8Writes (l : List Wrt) (hl : l.length ≤ 65536) : Good Try.prog 60 [.sl 8 (l.map encX)] (.row 3 104 8 (l.map encX)) := by
  refine Good.of_body (T := [(0, _)]) Try.func60 rfl rfl rfl ?_
  intro K0 w0 hno
  repeat' (first | refine CT.seqR ?_ | refine CT.seqD (id := 5) 8 (by kernel_rfl) (by kernel_rfl) ?_ | refine CT.draw (id := 5) 8 (by kernel_rfl) (by kernel_rfl) ?_ | refine CT.region ?_ | refine CT.seq1 ?_ | refine CT.block ?_ | refine CT.condT rfl ?_ | refine CT.condF rfl ?_ | refine CT.condD rfl (fun _ => ?_) (fun _ => ?_) | refine CT.condN rfl (fun _ => ?_) (fun _ => ?_) | refine CT.cond rfl (fun _ => ?_) (fun _ => ?_) | refine CT.skip ?_ | refine CT.exit ?_ | refine CT.ret ?_ | refine LT.nil ?_ | refine HT.nil1 ?_ | (refine LT.consT ?_; (first | refine T.alloc (e := 64) (z := .agg #[.int .i64 0, .bool false, .int .u64 0, .int .u64 0, .int .u64 0, .int .u64 0, .int .i64 0, .int .i64 0]) (cs := [.val (.int .i64 0), .val (.bool false), .val (.int .u64 0), .val (.int .u64 0), .val (.int .u64 0), .val (.int .u64 0), .val (.int .i64 0), .val (.int .i64 0)]) (by kernel_rfl) rfl (by decide) rfl rfl ?_ | refine T.store (t := 64) rfl rfl rfl (by kernel_rfl) (by kernel_rfl) (Nat.le_of_ble_eq_true (by kernel_rfl)) rfl rfl ?_ | refine T.appNil (t := 37) (e := 104) (k := 8) (bytes := 64) rfl rfl srP (by kernel_rfl) szP (by decide) rfl ?_ | refine T.app (t := 37) (e := 104) (k := 8) (bytes := 64) rfl rfl srP (by kernel_rfl) szP (by decide) rfl rfl ?_)) | ((first | apply LT.cons1 | apply HT.cons1); (first | exact arm60_1); (try decide)))
  refine CT.loopX (fun k : Nat => (⟨[(3, .row 3 104 8 ((l.take k).map encX)), (6, .sl 8 (l.map encX)), (7, .val (.int .i64 l.length)), (8, .val (.int .i64 k))], [], []⟩ : St))
    (fun k => k ≤ l.length) (fun k => l.length - k) 0 ?_ (by omega) ?_
  · rw [List.take_zero]
    (apply Sub.mk; (focus (repeat (first | exact .nil | refine .other (.keep rfl rfl) ?_ | refine .other (.aref rfl rfl rfl) ?_ | refine .other (.val rfl (by first | rfl | (congr 1; first | omega | assumption | (symm; assumption)) | (simp; omega))) ?_ | refine .other .dead ?_ | refine .other (.sl rfl (.row _ _ _ _) rfl) ?_ | refine .other (.sl rfl (.sl _ _) rfl) ?_ | refine .other (.sl rfl (.full _ _) rfl) ?_ | refine .other (.slNil rfl rfl) ?_ | refine .rowNil rfl rfl rfl ?_ | refine .row rfl (by first | rfl | assumption | (rw [← List.map_append]; first | done | rfl | congr 1)) rfl rfl ?_))); (focus (repeat (first | exact .nil | refine KeepB.same rfl rfl rfl ?_ | refine KeepB.sameA rfl rfl rfl ?_))); (focus (repeat (first | exact .nil | refine KeepA.cons rfl (by first | rfl | assumption | exact List.map_set | exact List.map_set.symm | (rw [← List.map_append]; first | done | rfl | congr 1) | (congr 1; first | omega | assumption)) ?_))))
  rintro k hk
  by_cases hlt : k < l.length
  · have hkl : (l.take k).length = k := by rw [List.length_take]; omega
    have gO := g_law8One l[k].s
    repeat' (first | refine CT.seqR ?_ | refine CT.seqD (id := 5) 8 (by kernel_rfl) (by kernel_rfl) ?_ | refine CT.draw (id := 5) 8 (by kernel_rfl) (by kernel_rfl) ?_ | refine CT.region ?_ | refine CT.seq1 ?_ | refine CT.block ?_ | refine CT.condT rfl ?_ | refine CT.condF rfl ?_ | refine CT.condD rfl (fun _ => ?_) (fun _ => ?_) | refine CT.condN rfl (fun _ => ?_) (fun _ => ?_) | refine CT.cond rfl (fun _ => ?_) (fun _ => ?_) | refine CT.skip ?_ | refine CT.exit ?_ | refine CT.ret ?_ | refine LT.nil ?_ | refine HT.nil1 ?_ | (refine LT.consT ?_; (first | refine T.alloc (e := 64) (z := .agg #[.int .i64 0, .bool false, .int .u64 0, .int .u64 0, .int .u64 0, .int .u64 0, .int .i64 0, .int .i64 0]) (cs := [.val (.int .i64 0), .val (.bool false), .val (.int .u64 0), .val (.int .u64 0), .val (.int .u64 0), .val (.int .u64 0), .val (.int .i64 0), .val (.int .i64 0)]) (by kernel_rfl) rfl (by decide) rfl rfl ?_ | refine T.store (t := 64) rfl rfl rfl (by kernel_rfl) (by kernel_rfl) (Nat.le_of_ble_eq_true (by kernel_rfl)) rfl rfl ?_ | refine T.appNil (t := 37) (e := 104) (k := 8) (bytes := 64) rfl rfl srP (by kernel_rfl) szP (by decide) rfl ?_ | refine T.app (t := 37) (e := 104) (k := 8) (bytes := 64) rfl rfl srP (by kernel_rfl) szP (by decide) rfl rfl ?_)) | ((first | apply LT.cons1 | apply HT.cons1); (first | exact OpH.callF Try.func47 rfl rfl rfl gO rfl | exact arm60_1); (try decide)))
    refine ⟨k + 1, by omega, by omega, ?_⟩
    rw [List.take_succ_eq_append_getElem hlt]
    (apply Sub.mk; (focus (repeat (first | exact .nil | refine .other (.keep rfl rfl) ?_ | refine .other (.aref rfl rfl rfl) ?_ | refine .other (.val rfl (by first | rfl | (congr 1; first | omega | assumption | (symm; assumption)) | (simp; omega))) ?_ | refine .other .dead ?_ | refine .other (.sl rfl (.row _ _ _ _) rfl) ?_ | refine .other (.sl rfl (.sl _ _) rfl) ?_ | refine .other (.sl rfl (.full _ _) rfl) ?_ | refine .other (.slNil rfl rfl) ?_ | refine .rowNil rfl rfl rfl ?_ | refine .row rfl (by first | rfl | assumption | (rw [← List.map_append]; first | done | rfl | congr 1)) rfl rfl ?_))); (focus (repeat (first | exact .nil | refine KeepB.same rfl rfl rfl ?_ | refine KeepB.sameA rfl rfl rfl ?_))); (focus (repeat (first | exact .nil | refine KeepA.cons rfl (by first | rfl | assumption | exact List.map_set | exact List.map_set.symm | (rw [← List.map_append]; first | done | rfl | congr 1) | (congr 1; first | omega | assumption)) ?_))))
  · obtain rfl : k = l.length := by omega
    repeat' (first | refine CT.seqR ?_ | refine CT.seqD (id := 5) 8 (by kernel_rfl) (by kernel_rfl) ?_ | refine CT.draw (id := 5) 8 (by kernel_rfl) (by kernel_rfl) ?_ | refine CT.region ?_ | refine CT.seq1 ?_ | refine CT.block ?_ | refine CT.condT rfl ?_ | refine CT.condF rfl ?_ | refine CT.condD rfl (fun _ => ?_) (fun _ => ?_) | refine CT.condN rfl (fun _ => ?_) (fun _ => ?_) | refine CT.cond rfl (fun _ => ?_) (fun _ => ?_) | refine CT.skip ?_ | refine CT.exit ?_ | refine CT.ret ?_ | refine LT.nil ?_ | refine HT.nil1 ?_ | (refine LT.consT ?_; (first | refine T.alloc (e := 64) (z := .agg #[.int .i64 0, .bool false, .int .u64 0, .int .u64 0, .int .u64 0, .int .u64 0, .int .i64 0, .int .i64 0]) (cs := [.val (.int .i64 0), .val (.bool false), .val (.int .u64 0), .val (.int .u64 0), .val (.int .u64 0), .val (.int .u64 0), .val (.int .i64 0), .val (.int .i64 0)]) (by kernel_rfl) rfl (by decide) rfl rfl ?_ | refine T.store (t := 64) rfl rfl rfl (by kernel_rfl) (by kernel_rfl) (Nat.le_of_ble_eq_true (by kernel_rfl)) rfl rfl ?_ | refine T.appNil (t := 37) (e := 104) (k := 8) (bytes := 64) rfl rfl srP (by kernel_rfl) szP (by decide) rfl ?_ | refine T.app (t := 37) (e := 104) (k := 8) (bytes := 64) rfl rfl srP (by kernel_rfl) szP (by decide) rfl rfl ?_)) | ((first | apply LT.cons1 | apply HT.cons1); (first | exact arm60_1); (try decide)))
    refine ⟨by first | exact .inl rfl | exact .inr rfl, _, (.cons (.tmp 2 (A := .row _ _ _ _) rfl (fun _ h => by cases h)) .nil), ?_, rfl⟩
    rw [List.take_length]
    rfl
theorem arm17_1 {p : Prop} (h : p := by first | exact OpH.assign (v := .val _) rfl | exact OpH.assign (v := .sl _ _) rfl | exact OpH.assign (v := .row _ _ _ _) rfl | exact OpH.assign (v := .full _ _) rfl | exact OpH.assign (v := .ptr _ _) rfl | exact OpH.assign (v := .cptr _) rfl | exact OpH.assign (v := .cloB _ _) rfl | exact OpH.assign (v := .clo _ _) rfl | exact OpH.assign (v := .pr _) rfl | exact OpH.assign (v := .arow _) rfl | exact OpH.assign (v := .aptr _ _ _ _) rfl | exact OpH.assign (v := .asub _ _ _ _) rfl | exact OpH.assign (v := .tup _) rfl | exact OpH.move (v := .val _) rfl | exact OpH.move (v := .sl _ _) rfl | exact OpH.move (v := .row _ _ _ _) rfl | exact OpH.move (v := .full _ _) rfl | exact OpH.move (v := .ptr _ _) rfl | exact OpH.move (v := .cptr _) rfl | exact OpH.move (v := .cloB _ _) rfl | exact OpH.move (v := .clo _ _) rfl | exact OpH.move (v := .pr _) rfl | exact OpH.move (v := .arow _) rfl | exact OpH.move (v := .aptr _ _ _ _) rfl | exact OpH.move (v := .asub _ _ _ _) rfl | exact OpH.move (v := .tup _) rfl | exact OpH.lenM (t := 37) rfl (.sl _ _) (by kernel_rfl) | exact OpH.lenM (t := 37) rfl (.row _ _ _ _) (by kernel_rfl) | exact OpH.lenM (t := 37) rfl (.full _ _) (by kernel_rfl) | exact OpH.len (t := 37) rfl slP (by kernel_rfl) | exact OpH.lenNil (t := 37) rfl (by kernel_rfl) | exact OpH.bin rfl rfl (pb_neq_t (by first | omega | assumption)) | exact OpH.bin rfl rfl (pb_neq_f (by first | omega | assumption)) | exact OpH.bin rfl rfl (pb_neq) | exact OpH.bin rfl rfl (pb_lss_t (by omega)) | exact OpH.bin rfl rfl (pb_lss_f (by omega)) | exact OpH.bin rfl rfl (pb_lss) | exact OpH.indexS (t := 37) (k := 8) rfl slP rfl rfl (by kernel_rfl) (map_at bd) rfl | exact loadC8 (t := 104) rfl (by kernel_rfl) | exact loadB8 (t := 104) rfl rfl (by kernel_rfl) rfl | exact OpH.bin rfl rfl (pb_of (pb_agg eqg_104 (neq_104 _ _ _ _ _ _ _ _ _ _ _ _ _ _ _ _)) (nsame_f (by first | rfl | assumption))) | exact OpH.bin rfl rfl (pb_of (pb_agg eqg_104 (neq_104 _ _ _ _ _ _ _ _ _ _ _ _ _ _ _ _)) (nsame_t (by assumption))) | exact OpH.bin rfl rfl (pb_agg eqg_104 (neq_104 _ _ _ _ _ _ _ _ _ _ _ _ _ _ _ _)) | exact OpH.bin rfl rfl (pb_inc (by omega)) | exact OpH.bin rfl rfl (pb_addN rfl (by omega)) | exact OpH.bin rfl rfl (pb_add (by omega)) | exact OpH.bin rfl rfl (pb_addw)) : p := h
set_option maxRecDepth 100000 in
set_option maxHeartbeats 2000000 in
theorem g_law12Writes (l : List Wrt) (hl : l.length ≤ 65536) : Good Try.prog 17 [.sl 8 (l.map encX), .sl 8 (l.map encX)] (.val (.bool true)) := by
  have gW := g_law8Writes l hl
  refine Good.of_body (T := [(0, _), (1, _)]) Try.func17 rfl rfl rfl ?_
  intro K0 w0 hno
  repeat' (first | (refine LT.consT ?_; refine T.callRow Try.func60 rfl rfl rfl gW (by decide) rfl ?_) | refine CT.seqR ?_ | refine CT.seqD (id := 7) 8 (by kernel_rfl) (by kernel_rfl) ?_ | refine CT.draw (id := 7) 8 (by kernel_rfl) (by kernel_rfl) ?_ | refine CT.region ?_ | refine CT.seq1 ?_ | refine CT.block ?_ | refine CT.condT rfl ?_ | refine CT.condF rfl ?_ | refine CT.condD rfl (fun _ => ?_) (fun _ => ?_) | refine CT.condN rfl (fun _ => ?_) (fun _ => ?_) | refine CT.cond rfl (fun _ => ?_) (fun _ => ?_) | refine CT.skip ?_ | refine CT.exit ?_ | refine CT.ret ?_ | refine LT.nil ?_ | refine HT.nil1 ?_ | ((first | apply LT.cons1 | apply HT.cons1); (first | exact arm17_1); (try decide)))
  refine CT.loopX (fun k : Nat => (⟨[(1, .sl 8 (l.map encX)), (5, .row 5 104 8 (l.map encX)), (15, .val (.int .i64 l.length)), (16, .val (.int .i64 k))], [], []⟩ : St))
    (fun k => k ≤ l.length) (fun k => l.length - k) 0 ?_ (by omega) ?_
  · (apply Sub.mk; (focus (repeat (first | exact .nil | refine .other (.keep rfl rfl) ?_ | refine .other (.aref rfl rfl rfl) ?_ | refine .other (.val rfl (by first | rfl | (congr 1; first | omega | assumption | (symm; assumption)) | (simp; omega))) ?_ | refine .other .dead ?_ | refine .other (.sl rfl (.row _ _ _ _) rfl) ?_ | refine .other (.sl rfl (.sl _ _) rfl) ?_ | refine .other (.sl rfl (.full _ _) rfl) ?_ | refine .other (.slNil rfl rfl) ?_ | refine .rowNil rfl rfl rfl ?_ | refine .row rfl (by first | rfl | assumption | (rw [← List.map_append]; first | done | rfl | congr 1)) rfl rfl ?_))); (focus (repeat (first | exact .nil | refine KeepB.same rfl rfl rfl ?_ | refine KeepB.sameA rfl rfl rfl ?_))); (focus (repeat (first | exact .nil | refine KeepA.cons rfl (by first | rfl | assumption | exact List.map_set | exact List.map_set.symm | (rw [← List.map_append]; first | done | rfl | congr 1) | (congr 1; first | omega | assumption)) ?_))))
  rintro k hk
  by_cases hlt : k < l.length
  · have he : l[k] = l[k] := rfl
    repeat' (first | refine CT.seqR ?_ | refine CT.seqD (id := 7) 8 (by kernel_rfl) (by kernel_rfl) ?_ | refine CT.draw (id := 7) 8 (by kernel_rfl) (by kernel_rfl) ?_ | refine CT.region ?_ | refine CT.seq1 ?_ | refine CT.block ?_ | refine CT.condT rfl ?_ | refine CT.condF rfl ?_ | refine CT.condD rfl (fun _ => ?_) (fun _ => ?_) | refine CT.condN rfl (fun _ => ?_) (fun _ => ?_) | refine CT.cond rfl (fun _ => ?_) (fun _ => ?_) | refine CT.skip ?_ | refine CT.exit ?_ | refine CT.ret ?_ | refine LT.nil ?_ | refine HT.nil1 ?_ | ((first | apply LT.cons1 | apply HT.cons1); (first | exact arm17_1); (try decide)))
    all_goals first
      | (refine ⟨k + 1, by omega, by omega, ?_⟩; (apply Sub.mk; (focus (repeat (first | exact .nil | refine .other (.keep rfl rfl) ?_ | refine .other (.aref rfl rfl rfl) ?_ | refine .other (.val rfl (by first | rfl | (congr 1; first | omega | assumption | (symm; assumption)) | (simp; omega))) ?_ | refine .other .dead ?_ | refine .other (.sl rfl (.row _ _ _ _) rfl) ?_ | refine .other (.sl rfl (.sl _ _) rfl) ?_ | refine .other (.sl rfl (.full _ _) rfl) ?_ | refine .other (.slNil rfl rfl) ?_ | refine .rowNil rfl rfl rfl ?_ | refine .row rfl (by first | rfl | assumption | (rw [← List.map_append]; first | done | rfl | congr 1)) rfl rfl ?_))); (focus (repeat (first | exact .nil | refine KeepB.same rfl rfl rfl ?_ | refine KeepB.sameA rfl rfl rfl ?_))); (focus (repeat (first | exact .nil | refine KeepA.cons rfl (by first | rfl | assumption | exact List.map_set | exact List.map_set.symm | (rw [← List.map_append]; first | done | rfl | congr 1) | (congr 1; first | omega | assumption)) ?_)))))
      | (rename_i h; exact absurd rfl h)
  · obtain rfl : k = l.length := by omega
    repeat' (first | refine CT.seqR ?_ | refine CT.seqD (id := 7) 8 (by kernel_rfl) (by kernel_rfl) ?_ | refine CT.draw (id := 7) 8 (by kernel_rfl) (by kernel_rfl) ?_ | refine CT.region ?_ | refine CT.seq1 ?_ | refine CT.block ?_ | refine CT.condT rfl ?_ | refine CT.condF rfl ?_ | refine CT.condD rfl (fun _ => ?_) (fun _ => ?_) | refine CT.condN rfl (fun _ => ?_) (fun _ => ?_) | refine CT.cond rfl (fun _ => ?_) (fun _ => ?_) | refine CT.skip ?_ | refine CT.exit ?_ | refine CT.ret ?_ | refine LT.nil ?_ | refine HT.nil1 ?_ | ((first | apply LT.cons1 | apply HT.cons1); (first | exact arm17_1); (try decide)))
    refine ⟨by first | exact .inl rfl | exact .inr rfl, _, (.cons (.tmp 4 (A := .val _) rfl (fun _ h => by cases h)) .nil), ?_, rfl⟩
    rfl
end Go.Proofs.Ytjmnnkhdadoehaa

/- ref13.Gap, Below, Above. -/
namespace Go.Proofs.Ytjmnnkhdadoehaa
set_option linter.unusedSimpArgs false
set_option linter.unusedVariables false
open Go Go.RowKit Go.Shelf
attribute [local irreducible] OpH OpT LT CT HT Good
end Go.Proofs.Ytjmnnkhdadoehaa

/- ref13.Below, Above. -/
namespace Go.Proofs.Ytjmnnkhdadoehaa
set_option linter.unusedSimpArgs false
set_option linter.unusedVariables false
open Go Go.RowKit Go.Shelf
section
variable {P : Program} {N : Nat} {K0 : Know} {w0 : Bas} {Q : St → Prop} {ty : TypeId} {pos : String} {aft : Array Edge} {g : Option (Nat × Bool)} {tm : List (Nat × AV)} {bs : List (Nat × List AV)} {ar : List (Nat × Arr)} {dn : Nat}
end
theorem behind_behind (p w : List Int) (a : Int) : behind p (behind [a] w) = behind (p ++ [a]) w := by cases w <;> simp [behind]
structure InvB (l : List Slt) (W : List Int) (i m f : Nat) (way : List Int) : Prop where
  le : i ≤ m
  lm : m ≤ l.length
  val : m < l.length → (nth l m).valid = true
  fuel : m < l.length → l.length - m < f
  bnd : ∀ v ∈ way, 0 ≤ v ∧ v < l.length
  len : way.length ≤ i
  is : W = if 0 ≤ emFirst l i m then way ++ [emFirst l i m] else behind way (wayG (nextB l) l.length f m)
theorem InvB.push {l : List Slt} {W : List Int} {i f : Nat} {way : List Int} (h : InvB l W i i f way) (hi : i < l.length) : (nth l i).valid = true ∧ InvB l W (i + 1) (loF l (nth l i).e (i + 1)) (f - 1) (way ++ [(i : Int)]) := by
  refine ⟨h.val hi, ?_⟩
  obtain ⟨q1, q2, q3, q4⟩ := loF_spec l (nth l i).e (show i + 1 ≤ l.length by omega)
  obtain ⟨f, rfl⟩ : ∃ f', f = f' + 1 := ⟨f - 1, by have := h.fuel hi; omega⟩
  have hf := h.fuel hi
  have his := h.is
  rw [emFirst_start, if_neg (by omega)] at his
  have e1 : (nextB l i).1 = (loF l (nth l i).e (i + 1) : Int) := by unfold nextB; simp only [Int.toNat_natCast]
  have e2 : (nextB l i).2 = emFirst l (i + 1) (loF l (nth l i).e (i + 1)) := by unfold nextB; simp only [Int.toNat_natCast]
  refine ⟨q1, q2, fun hl => ?_, fun hl => by omega, fun v hv => ?_, by have := h.len; simp; omega, ?_⟩
  · have := q4 hl
    unfold loP at this
    rw [Bool.and_eq_true] at this
    exact this.1
  · rcases List.mem_append.1 hv with hv | hv
    · exact h.bnd v hv
    · rw [List.mem_singleton.1 hv]; omega
  · rw [his]
    by_cases c : 0 ≤ emFirst l (i + 1) (loF l (nth l i).e (i + 1))
    · rw [if_pos c, wayG_free ⟨by omega, by omega⟩ (by rw [e2]; exact c), e2]
      simp [behind]
    · rw [if_neg c, wayG_far ⟨by omega, by omega⟩ (by rw [e2]; exact c), e1, behind_behind]
      simp only [Nat.add_sub_cancel]
theorem InvB.done {l : List Slt} {W : List Int} {m f : Nat} {way : List Int} (h : InvB l W l.length m f way) : W = [] := by
  have e : m = l.length := by have := h.le; have := h.lm; omega
  subst e
  rw [h.is, emFirst_start, if_neg (by omega), wayG_out (by omega)]; rfl
attribute [local irreducible] OpH OpT LT CT HT Good
end Go.Proofs.Ytjmnnkhdadoehaa

/- ref13.Above. -/
namespace Go.Proofs.Ytjmnnkhdadoehaa
set_option linter.unusedSimpArgs false
set_option linter.unusedVariables false
open Go Go.RowKit Go.Shelf
structure InvA (l : List Slt) (W : List Int) (p : Nat) (m : Int) (f : Nat) (way : List Int) : Prop where
  lo : -1 ≤ m
  le : m < p
  lp : p ≤ l.length
  val : 0 ≤ m → (nth l m.toNat).valid = true
  fuel : 0 ≤ m → m.toNat < f
  bnd : ∀ v ∈ way, 0 ≤ v ∧ v < l.length
  len : way.length + p ≤ l.length
  is : W = if 0 ≤ emLast l (m + 1).toNat p then way ++ [emLast l (m + 1).toNat p] else behind way (wayG (nextA l) l.length f m)
theorem InvA.push {l : List Slt} {W : List Int} {i f : Nat} {way : List Int} (h : InvA l W (i + 1) i f way) : (nth l i).valid = true ∧ InvA l W i (hiF l (nth l i).e i) (f - 1) (way ++ [(i : Int)]) := by
  have hv := h.val (by omega)
  rw [Int.toNat_natCast] at hv
  refine ⟨hv, ?_⟩
  have qb := lastTo_bound (hiP l (nth l i).e) i
  obtain ⟨_, q3⟩ := lastTo_spec (hiP l (nth l i).e) i
  have hq : hiF l (nth l i).e i = lastTo (hiP l (nth l i).e) i := rfl
  have hf := h.fuel (by omega)
  rw [Int.toNat_natCast] at hf
  obtain ⟨f, rfl⟩ : ∃ f', f = f' + 1 := ⟨f - 1, by omega⟩
  have his := h.is
  rw [show ((i : Int) + 1).toNat = i + 1 by omega, emLast_start, if_neg (by omega)] at his
  have e1 : (nextA l i).1 = hiF l (nth l i).e i := by unfold nextA; simp only [Int.toNat_natCast]
  have e2 : (nextA l i).2 = emLast l (hiF l (nth l i).e i + 1).toNat i := by unfold nextA; simp only [Int.toNat_natCast]
  have hlp := h.lp
  refine ⟨by omega, by omega, by omega, fun hl => ?_, fun hl => by omega, fun v hv' => ?_, by have := h.len; simp; omega, ?_⟩
  · have := q3 (by omega)
    rw [hq]
    unfold hiP at this
    rw [Bool.and_eq_true] at this
    exact this.1
  · rcases List.mem_append.1 hv' with hv' | hv'
    · exact h.bnd v hv'
    · rw [List.mem_singleton.1 hv']; omega
  · rw [his]
    by_cases c : 0 ≤ emLast l (hiF l (nth l i).e i + 1).toNat i
    · rw [if_pos c, wayG_free ⟨by omega, by omega⟩ (by rw [e2]; exact c), e2]
      simp [behind]
    · rw [if_neg c, wayG_far ⟨by omega, by omega⟩ (by rw [e2]; exact c), e1, behind_behind]
      simp only [Nat.add_sub_cancel]
theorem InvA.done {l : List Slt} {W : List Int} {m : Int} {f : Nat} {way : List Int} (h : InvA l W 0 m f way) : W = [] := by
  have h1 := h.lo
  have h2 := h.le
  have e : m = -1 := by omega
  subst e
  rw [h.is, show ((-1 : Int) + 1).toNat = 0 from rfl, emLast_start, if_neg (by omega), wayG_out (by omega)]; rfl
attribute [local irreducible] OpH OpT LT CT HT Good
end Go.Proofs.Ytjmnnkhdadoehaa

/- ref13.Insert. -/
namespace Go.Proofs.Ytjmnnkhdadoehaa
set_option linter.unusedSimpArgs false
set_option linter.unusedVariables false
open Go Go.RowKit Go.Shelf
attribute [local irreducible] OpH OpT LT CT HT Good
end Go.Proofs.Ytjmnnkhdadoehaa
