/- plo.Insert, ref12.Insert. -/
import Derived.Test.YtjmnnkhdadoehaaGreatYPloW
import Derived.Test.YtjmnnkhdadoehaaGreatYCaoQ
namespace Go.Proofs.YtjmnnkhdadoehaaGreat
set_option linter.unusedSimpArgs false
set_option linter.unusedVariables false
open Go Go.RowKit Go.Shelf
theorem insP_prep {l : List Slt} {n : Int} (hk : keptP l = true) : ∃ fr tt : Nat, fL l n l.length = fr ∧ tL l n l.length = tt ∧ fr ≤ tt ∧ tt ≤ l.length ∧
    (∀ r : Nat, emFirst l tt l.length = r → r < l.length ∧ tt ≤ r ∧ ∀ i j, tt ≤ i → i ≤ j → j < r → lenAt l j ≤ lenAt l i) ∧
    (∀ r : Nat, emLast l 0 fr = r → r < fr ∧ ∀ i j, r < i → i ≤ j → j ≤ fr - 1 → lenAt l j ≤ lenAt l i) ∧
    (emFirst l fr tt < 0 → emFirst l tt l.length < 0 → emLast l 0 fr < 0 → (entsS l).length = l.length) := by
  obtain ⟨f1, f2, _⟩ := fL_ge l n l.length
  obtain ⟨t1, t2, _⟩ := tL_le l n l.length
  have hft := fL_tL (n := n) hk
  have hkk := (keptP_iff l).1 hk
  have mono : ∀ i j, i ≤ j → j < l.length → (nth l i).valid = true → (nth l j).valid = true → lenAt l j ≤ lenAt l i := fun i j h1 h2 h3 h4 => by
    rcases Nat.lt_or_ge i j with c | c
    · exact hkk i j c h2 h3 h4
    · rw [show i = j by omega]; exact Int.le_refl _
  refine ⟨(fL l n l.length).toNat, (tL l n l.length).toNat, by omega, by omega, by omega, by omega, ?_, ?_, ?_⟩
  · intro r hr
    rcases emFirst_spec l (show (tL l n l.length).toNat ≤ l.length by omega) with ⟨h, _⟩ | ⟨q, h, h2, h3, h4, h5⟩
    · omega
    · obtain rfl : q = r := by omega
      exact ⟨h3, h2, fun i j z1 z2 z3 => mono i j z2 (by omega) (h5 i z1 (by omega)) (h5 j (by omega) z3)⟩
  · intro r hr
    rcases emLast_spec l 0 (fL l n l.length).toNat with ⟨h, _⟩ | ⟨q, h, h2, h3, h4, h5⟩
    · omega
    · obtain rfl : q = r := by omega
      exact ⟨h3, fun i j z1 z2 z3 => mono i j z2 (by omega) (h5 i z1 (by omega)) (h5 j (by omega) (by omega))⟩
  · intro h1 h2 h3
    refine ents_all fun k hk => ?_
    have e1 : ∀ j, (fL l n l.length).toNat ≤ j → j < (tL l n l.length).toNat → (nth l j).valid = true := by
      rcases emFirst_spec l (show (fL l n l.length).toNat ≤ (tL l n l.length).toNat by omega) with ⟨_, h⟩ | ⟨q, h, _⟩
      · exact h
      · omega
    have e2 : ∀ j, (tL l n l.length).toNat ≤ j → j < l.length → (nth l j).valid = true := by
      rcases emFirst_spec l (show (tL l n l.length).toNat ≤ l.length by omega) with ⟨_, h⟩ | ⟨q, h, _⟩
      · exact h
      · omega
    have e3 : ∀ j, 0 ≤ j → j < (fL l n l.length).toNat → (nth l j).valid = true := by
      rcases emLast_spec l 0 (fL l n l.length).toNat with ⟨_, h⟩ | ⟨q, h, _⟩
      · exact h
      · omega
    by_cases c1 : k < (fL l n l.length).toNat
    · exact e3 k (Nat.zero_le _) c1
    · by_cases c2 : k < (tL l n l.length).toNat
      · exact e1 k (by omega) c2
      · exact e2 k (by omega) hk
theorem insP_length (l : List Slt) (x : Ent) : (insP l x).1.length ≤ l.length + 3 := by
  have h1 := shA_len l x ((fL l x.len l.length).toNat - 1) (emLast l 0 (fL l x.len l.length).toNat).toNat
  have h2 := shB_len l x (tL l x.len l.length).toNat (emFirst l (tL l x.len l.length).toNat l.length).toNat
  obtain ⟨f1, f2, _⟩ := fL_ge l x.len l.length
  obtain ⟨t1, t2, _⟩ := tL_le l x.len l.length
  have h3 : emFirst l (tL l x.len l.length).toNat l.length ≤ l.length := by
    rcases emFirst_spec l (show (tL l x.len l.length).toNat ≤ l.length by omega) with ⟨h, _⟩ | ⟨q, h, _, h3, _⟩ <;> omega
  unfold insP
  split
  · simp
  split
  · simp
  split
  · simp
  split
  · simp
  split
  · dsimp only; omega
  split
  · dsimp only; omega
  · dsimp only; omega
attribute [local irreducible] OpH OpT LT CT HT Good
theorem arm81_1 {p : Prop} (h : p := by first | exact fm0 | exact fm63 | exact fm12 | exact fm56 | exact fm53 | exact fm1 | exact fm25 | exact fm16 | exact fm50 | exact fm15 | exact OpH.subLH (t := 30) (k := 7) rfl slP (by kernel_rfl) rfl rfl rfl rfl bd bd | exact fm2 | exact fm4 | exact build_48_0_1 rfl rfl | exact fm10 | exact build_50_0_1 rfl rfl | exact fm11 | exact lit_37_1 rfl | exact OpH.subLo (t := 30) (k := 7) rfl slP (by kernel_rfl) rfl rfl bd | exact fm8 | exact fm9 | exact fm46 | exact fm3 | exact fm6 | exact fm54 | exact fm55 | fail) : p := h
theorem stpPloI_1 {G G' : Prop} (h' : G') (h : Hidd G' → G := by (first | (intro h; (first | (refine LT.consT ?_; (first | refine T.box (e := 46) (cs := [.val _, .val _, .val _, .val _, .val _, .val _]) rfl rfl (by decide) rfl rfl ?_)) | ((first | apply LT.cons1 | (apply LT.guard1; rfl; rfl; rfl; decide)); exact arm81_1; (try decide))); exact h.1) | fail)) : G := h ⟨h'⟩
set_option maxRecDepth 100000 in
set_option maxHeartbeats 4000000 in
theorem g_pInsert (l : List Slt) (x : Ent) (hl : l.length ≤ 60000) : Good Tryz.prog 81 [.sl 7 (l.map encS), .val (.agg #[.int .u64 x.w.v.x, .int .u64 x.w.v.y, .int .u64 x.w.m.x, .int .u64 x.w.m.y, .int .i64 x.len, .int .i64 x.act])] (.tup [.sl 8 ((insP l x).1.map encX), .val (.int .i64 (insP l x).2)]) := by
  have gR : Good Tryz.prog 61 [.val (.agg #[.int .u64 x.w.v.x, .int .u64 x.w.v.y, .int .u64 x.w.m.x, .int .u64 x.w.m.y, .int .i64 x.len, .int .i64 x.act])] (.val (.bool (eRight x))) := g_eRight _ _ _ _ _ _
  have gK := g_ploKept l (keptP l) (keptP_adj l) hl
  have gF := g_Free l hl
  have hel := entsS_length l
  have hins : insP l x = insP l x := rfl
  conv at hins => rhs; unfold insP
  have key : ∀ (r : List Wrt × Int) (ws : List Wrt) (n : Int), Good Tryz.prog 81 [.sl 7 (l.map encS), .val (.agg #[.int .u64 x.w.v.x, .int .u64 x.w.v.y, .int .u64 x.w.m.x, .int .u64 x.w.m.y, .int .i64 x.len, .int .i64 x.act])] (.tup [.sl 8 (ws.map encX), .val (.int .i64 n)]) → r = (ws, n) → Good Tryz.prog 81 [.sl 7 (l.map encS), .val (.agg #[.int .u64 x.w.v.x, .int .u64 x.w.v.y, .int .u64 x.w.m.x, .int .u64 x.w.m.y, .int .i64 x.len, .int .i64 x.act])] (.tup [.sl 8 (r.1.map encX), .val (.int .i64 r.2)]) := fun r ws n h e => by rw [e]; exact h
  generalize insP l x = r at hins ⊢
  cases hr : eRight x with
  | false =>
    rw [if_pos hr] at hins
    refine key _ _ _ ?_ hins
    rw [hr] at gR
    refine Good.of_body (T := [(0, _), (1, _)]) Tryz.func81 rfl rfl rfl ?_
    intro K0 w0 hno
    repeat' (first | (refine CT.sub (S' := ⟨[(4, .sl 8 (([] : List Wrt).map encX)), (5, .val (.int .i64 1))], [], []⟩) ?_ (CT.ret ?_)) | ((first | apply LT.cons1 | (apply LT.guard1; rfl; rfl; rfl; decide)); (first | exact OpH.callF Tryz.func61 rfl rfl rfl gR rfl); (try decide)) | refine stpPloI_1 ?_ | refine stp ?_ | (refine stq ?_ ?_ <;> intro _))
    · exact subT
    · refine ⟨by first | exact .inl rfl | exact .inr rfl, _, (.cons (.tmp 4 (A := .sl _ _) rfl (fun _ h => by cases h)) (.cons (.tmp 5 (A := .val _) rfl (fun _ h => by cases h)) .nil)), ?_, rfl⟩
      rfl
  | true =>
    rw [if_neg (by rw [hr]; decide)] at hins
    rw [hr] at gR
    cases hk : keptP l with
    | false =>
      rw [if_pos hk] at hins
      refine key _ _ _ ?_ hins
      rw [hk] at gK
      refine Good.of_body (T := [(0, _), (1, _)]) Tryz.func81 rfl rfl rfl ?_
      intro K0 w0 hno
      repeat' (first | (refine CT.sub (S' := ⟨[(4, .sl 8 (([] : List Wrt).map encX)), (5, .val (.int .i64 7))], [], []⟩) ?_ (CT.ret ?_)) | ((first | apply LT.cons1 | (apply LT.guard1; rfl; rfl; rfl; decide)); (first | exact OpH.callF Tryz.func61 rfl rfl rfl gR rfl | exact OpH.callF Tryz.func80 rfl rfl rfl gK rfl); (try decide)) | refine stpPloI_1 ?_ | refine stp ?_ | (refine stq ?_ ?_ <;> intro _))
      · exact subT
      · refine ⟨by first | exact .inl rfl | exact .inr rfl, _, (.cons (.tmp 4 (A := .sl _ _) rfl (fun _ h => by cases h)) (.cons (.tmp 5 (A := .val _) rfl (fun _ h => by cases h)) .nil)), ?_, rfl⟩
        rfl
    | true =>
      rw [if_neg (by rw [hk]; decide)] at hins
      rw [hk] at gK
      have hprep := insP_prep (n := x.len) hk
      generalize (entsS l).length = ne at gF hel hins hprep
      by_cases hf : ne = l.length
      · rw [if_pos hf] at hins
        refine key _ _ _ ?_ hins
        refine Good.of_body (T := [(0, _), (1, _)]) Tryz.func81 rfl rfl rfl ?_
        intro K0 w0 hno
        repeat' (first | (refine CT.sub (S' := ⟨[(4, .sl 8 (([] : List Wrt).map encX)), (5, .val (.int .i64 3))], [], []⟩) ?_ (CT.ret ?_)) | ((first | apply LT.cons1 | (apply LT.guard1; rfl; rfl; rfl; decide)); (first | exact OpH.callF Tryz.func61 rfl rfl rfl gR rfl | exact OpH.callF Tryz.func80 rfl rfl rfl gK rfl | exact OpH.callF Tryz.func25 rfl rfl rfl gF rfl); (try decide)) | refine stpPloI_1 ?_ | refine stp ?_ | (refine stq ?_ ?_ <;> intro _))
        · exact subT
        · refine ⟨by first | exact .inl rfl | exact .inr rfl, _, (.cons (.tmp 4 (A := .sl _ _) rfl (fun _ h => by cases h)) (.cons (.tmp 5 (A := .val _) rfl (fun _ h => by cases h)) .nil)), ?_, rfl⟩
          rfl
      · rw [if_neg hf] at hins
        have gG := g_ploGap l x.len ((keptP_adj l).1 hk) hl
        obtain ⟨fr, tt, efr, ett, hft, htl, hB, hA, hN⟩ := hprep
        rw [efr, ett] at hins gG
        simp only [Int.toNat_natCast] at hins
        have gI1 := g_IndexEmpty ((l.take tt).drop fr) (by rw [List.length_drop, List.length_take]; omega)
        rw [emFirst_part l hft htl] at gI1
        have gI2 := g_IndexEmpty (l.drop tt) (by rw [List.length_drop]; omega)
        rw [emFirst_partD l htl] at gI2
        have gL := g_last l fr (by omega) (by omega)
        have hE := emFirst_spec l hft
        clear efr ett
        generalize hem : emFirst l fr tt = em at hins gI1 hE hN
        by_cases h0 : 0 ≤ em
        · obtain ⟨k, hk, hkt⟩ : ∃ k : Nat, em = (fr : Int) + k ∧ fr + k < tt := by
            rcases hE with ⟨h, _⟩ | ⟨q, h, h2, h3, _⟩
            · omega
            · exact ⟨q - fr, by omega, by omega⟩
          subst hk
          rw [if_pos h0] at hins
          rw [if_pos h0, show (fr : Int) + k - fr = k by omega] at gI1
          clear hE hN hB hA
          refine key _ _ _ ?_ hins
          refine Good.of_body (T := [(0, _), (1, _)]) Tryz.func81 rfl rfl rfl ?_
          intro K0 w0 hno
          repeat' (first | (refine CT.sub (S' := ⟨[(4, .sl 8 (([⟨(fr : Int) + k, ⟨true, x⟩⟩] : List Wrt).map encX)), (5, .val (.int .i64 0))], [], []⟩) ?_ (CT.ret ?_)) | ((first | apply LT.cons1 | (apply LT.guard1; rfl; rfl; rfl; decide)); (first | exact OpH.callF Tryz.func61 rfl rfl rfl gR rfl | exact OpH.callF Tryz.func80 rfl rfl rfl gK rfl | exact OpH.callF Tryz.func25 rfl rfl rfl gF rfl | exact OpH.callF Tryz.func107 rfl rfl rfl gG rfl | exact OpH.subLH (t := 30) (k := 7) (l := fr) (h := tt) rfl slP (by kernel_rfl) rfl rfl rfl rfl hft htl | exact OpH.callF Tryz.func71 rfl rfl rfl gI1 rfl); (try decide)) | refine stpPloI_1 ?_ | refine stp ?_ | (refine stq ?_ ?_ <;> intro _))
          · exact subT
          · refine ⟨by first | exact .inl rfl | exact .inr rfl, _, (.cons (.tmp 4 (A := .sl _ _) rfl (fun _ h => by cases h)) (.cons (.tmp 5 (A := .val _) rfl (fun _ h => by cases h)) .nil)), ?_, rfl⟩
            rfl
        · rw [if_neg h0] at hins gI1
          generalize hdn : emFirst l tt l.length = dn at hins gI2 hB hN
          generalize hup : emLast l 0 fr = up at hins gL hA hN
          clear hE
          by_cases d0 : 0 ≤ dn
          · clear hN
            obtain ⟨d, hd⟩ : ∃ d : Nat, dn = (tt : Int) + d := by
              obtain ⟨r, hr⟩ : ∃ r : Nat, dn = r := ⟨dn.toNat, by omega⟩
              have := (hB r hr).2.1
              exact ⟨r - tt, by omega⟩
            subst hd
            obtain ⟨b1, b2, b3⟩ := hB (tt + d) (by omega)
            have gSB := g_shiftB l x tt (tt + d) b2 b1 b3 hl
            rw [if_pos d0, show (tt : Int) + d - tt = d by omega] at gI2
            rw [if_neg (by omega), show ((tt : Int) + d).toNat = tt + d by omega] at hins
            have hlB := shB_len l x tt (tt + d)
            generalize shB l x tt (tt + d) = wb at hins gSB hlB
            rw [Int.natCast_add] at gSB
            by_cases u0 : 0 ≤ up
            · obtain ⟨u, hu⟩ : ∃ u : Nat, up = u := ⟨up.toNat, by omega⟩
              subst hu
              obtain ⟨a1, a2⟩ := hA u rfl
              have gSA := g_shiftA l x (fr - 1) u (by omega) (by omega) a2 hl
              rw [Int.toNat_natCast] at hins
              have hlA := shA_len l x (fr - 1) u
              generalize shA l x (fr - 1) u = wa at hins gSA hlA
              rw [show ((fr - 1 : Nat) : Int) = (fr : Int) - 1 by omega] at gSA
              by_cases c : wa.length < wb.length
              · rw [if_pos ⟨by omega, c⟩] at hins
                refine key _ _ _ ?_ hins
                refine Good.of_body (T := [(0, _), (1, _)]) Tryz.func81 rfl rfl rfl ?_
                intro K0 w0 hno
                repeat' (first | (refine LT.consT ?_; refine T.callRow Tryz.func109 rfl rfl rfl gSB (by decide) rfl ?_) | (refine LT.consT ?_; refine T.callRow Tryz.func109 rfl rfl rfl gSA (by decide) rfl ?_) | (refine CT.sub (S' := ⟨[(4, .sl 8 (wa.map encX)), (5, .val (.int .i64 0))], [], []⟩) ?_ (CT.ret ?_)) | ((first | apply LT.cons1 | (apply LT.guard1; rfl; rfl; rfl; decide)); (first | exact OpH.callF Tryz.func61 rfl rfl rfl gR rfl | exact OpH.callF Tryz.func80 rfl rfl rfl gK rfl | exact OpH.callF Tryz.func25 rfl rfl rfl gF rfl | exact OpH.callF Tryz.func107 rfl rfl rfl gG rfl | exact OpH.subLH (t := 30) (k := 7) (l := fr) (h := tt) rfl slP (by kernel_rfl) rfl rfl rfl rfl hft htl | exact OpH.subLo (t := 30) (k := 7) (l := tt) rfl slP (by kernel_rfl) rfl rfl htl | exact OpH.callF Tryz.func71 rfl rfl rfl gI1 rfl | exact OpH.callF Tryz.func71 rfl rfl rfl gI2 rfl | exact OpH.callF Tryz.func110 rfl rfl rfl gL rfl); (try decide)) | refine stpPloI_1 ?_ | refine stp ?_ | (refine stq ?_ ?_ <;> intro _))
                · exact subT
                · refine ⟨by first | exact .inl rfl | exact .inr rfl, _, (.cons (.tmp 4 (A := .sl _ _) rfl (fun _ h => by cases h)) (.cons (.tmp 5 (A := .val _) rfl (fun _ h => by cases h)) .nil)), ?_, rfl⟩
                  rfl
              · rw [if_neg (fun h => c h.2)] at hins
                refine key _ _ _ ?_ hins
                refine Good.of_body (T := [(0, _), (1, _)]) Tryz.func81 rfl rfl rfl ?_
                intro K0 w0 hno
                repeat' (first | (refine LT.consT ?_; refine T.callRow Tryz.func109 rfl rfl rfl gSB (by decide) rfl ?_) | (refine LT.consT ?_; refine T.callRow Tryz.func109 rfl rfl rfl gSA (by decide) rfl ?_) | (refine CT.sub (S' := ⟨[(4, .sl 8 (wb.map encX)), (5, .val (.int .i64 0))], [], []⟩) ?_ (CT.ret ?_)) | ((first | apply LT.cons1 | (apply LT.guard1; rfl; rfl; rfl; decide)); (first | exact OpH.callF Tryz.func61 rfl rfl rfl gR rfl | exact OpH.callF Tryz.func80 rfl rfl rfl gK rfl | exact OpH.callF Tryz.func25 rfl rfl rfl gF rfl | exact OpH.callF Tryz.func107 rfl rfl rfl gG rfl | exact OpH.subLH (t := 30) (k := 7) (l := fr) (h := tt) rfl slP (by kernel_rfl) rfl rfl rfl rfl hft htl | exact OpH.subLo (t := 30) (k := 7) (l := tt) rfl slP (by kernel_rfl) rfl rfl htl | exact OpH.callF Tryz.func71 rfl rfl rfl gI1 rfl | exact OpH.callF Tryz.func71 rfl rfl rfl gI2 rfl | exact OpH.callF Tryz.func110 rfl rfl rfl gL rfl); (try decide)) | refine stpPloI_1 ?_ | refine stp ?_ | (refine stq ?_ ?_ <;> intro _))
                · exact subT
                · refine ⟨by first | exact .inl rfl | exact .inr rfl, _, (.cons (.tmp 4 (A := .sl _ _) rfl (fun _ h => by cases h)) (.cons (.tmp 5 (A := .val _) rfl (fun _ h => by cases h)) .nil)), ?_, rfl⟩
                  rfl
            · rw [if_neg (fun h => u0 h.1)] at hins
              refine key _ _ _ ?_ hins
              refine Good.of_body (T := [(0, _), (1, _)]) Tryz.func81 rfl rfl rfl ?_
              intro K0 w0 hno
              repeat' (first | (refine LT.consT ?_; refine T.callRow Tryz.func109 rfl rfl rfl gSB (by decide) rfl ?_) | (refine CT.sub (S' := ⟨[(4, .sl 8 (wb.map encX)), (5, .val (.int .i64 0))], [], []⟩) ?_ (CT.ret ?_)) | ((first | apply LT.cons1 | (apply LT.guard1; rfl; rfl; rfl; decide)); (first | exact OpH.callF Tryz.func61 rfl rfl rfl gR rfl | exact OpH.callF Tryz.func80 rfl rfl rfl gK rfl | exact OpH.callF Tryz.func25 rfl rfl rfl gF rfl | exact OpH.callF Tryz.func107 rfl rfl rfl gG rfl | exact OpH.subLH (t := 30) (k := 7) (l := fr) (h := tt) rfl slP (by kernel_rfl) rfl rfl rfl rfl hft htl | exact OpH.subLo (t := 30) (k := 7) (l := tt) rfl slP (by kernel_rfl) rfl rfl htl | exact OpH.callF Tryz.func71 rfl rfl rfl gI1 rfl | exact OpH.callF Tryz.func71 rfl rfl rfl gI2 rfl | exact OpH.callF Tryz.func110 rfl rfl rfl gL rfl); (try decide)) | refine stpPloI_1 ?_ | refine stp ?_ | (refine stq ?_ ?_ <;> intro _))
              · exact subT
              · refine ⟨by first | exact .inl rfl | exact .inr rfl, _, (.cons (.tmp 4 (A := .sl _ _) rfl (fun _ h => by cases h)) (.cons (.tmp 5 (A := .val _) rfl (fun _ h => by cases h)) .nil)), ?_, rfl⟩
                rfl
          · rw [if_pos (by omega)] at hins
            rw [if_neg d0] at gI2
            have u0 : 0 ≤ up := Classical.byContradiction fun h => hf (hN (by omega) (by omega) (by omega))
            clear hN
            obtain ⟨u, hu⟩ : ∃ u : Nat, up = u := ⟨up.toNat, by omega⟩
            subst hu
            obtain ⟨a1, a2⟩ := hA u rfl
            have gSA := g_shiftA l x (fr - 1) u (by omega) (by omega) a2 hl
            rw [Int.toNat_natCast] at hins
            have hlA := shA_len l x (fr - 1) u
            generalize shA l x (fr - 1) u = wa at hins gSA hlA
            rw [show ((fr - 1 : Nat) : Int) = (fr : Int) - 1 by omega] at gSA
            refine key _ _ _ ?_ hins
            refine Good.of_body (T := [(0, _), (1, _)]) Tryz.func81 rfl rfl rfl ?_
            intro K0 w0 hno
            repeat' (first | (refine LT.consT ?_; refine T.callRow Tryz.func109 rfl rfl rfl gSA (by decide) rfl ?_) | (refine CT.sub (S' := ⟨[(4, .sl 8 (wa.map encX)), (5, .val (.int .i64 0))], [], []⟩) ?_ (CT.ret ?_)) | ((first | apply LT.cons1 | (apply LT.guard1; rfl; rfl; rfl; decide)); (first | exact OpH.callF Tryz.func61 rfl rfl rfl gR rfl | exact OpH.callF Tryz.func80 rfl rfl rfl gK rfl | exact OpH.callF Tryz.func25 rfl rfl rfl gF rfl | exact OpH.callF Tryz.func107 rfl rfl rfl gG rfl | exact OpH.subLH (t := 30) (k := 7) (l := fr) (h := tt) rfl slP (by kernel_rfl) rfl rfl rfl rfl hft htl | exact OpH.subLo (t := 30) (k := 7) (l := tt) rfl slP (by kernel_rfl) rfl rfl htl | exact OpH.callF Tryz.func71 rfl rfl rfl gI1 rfl | exact OpH.callF Tryz.func71 rfl rfl rfl gI2 rfl | exact OpH.callF Tryz.func110 rfl rfl rfl gL rfl); (try decide)) | refine stpPloI_1 ?_ | refine stp ?_ | (refine stq ?_ ?_ <;> intro _))
            · exact subT
            · refine ⟨by first | exact .inl rfl | exact .inr rfl, _, (.cons (.tmp 4 (A := .sl _ _) rfl (fun _ h => by cases h)) (.cons (.tmp 5 (A := .val _) rfl (fun _ h => by cases h)) .nil)), ?_, rfl⟩
              rfl
end Go.Proofs.YtjmnnkhdadoehaaGreat
