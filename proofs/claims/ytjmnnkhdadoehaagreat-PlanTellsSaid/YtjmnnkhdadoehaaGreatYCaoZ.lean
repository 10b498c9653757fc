/- cao.Insert. -/
import Derived.Test.YtjmnnkhdadoehaaGreatYMergeF
namespace Go.Proofs.YtjmnnkhdadoehaaGreat
set_option linter.unusedSimpArgs false
set_option linter.unusedVariables false
open Go Go.RowKit Go.Shelf
attribute [local irreducible] OpH OpT LT CT HT Good
theorem arm83_1 {p : Prop} (h : p := by first | exact fm0 | exact fm51 | exact fm63 | exact fm53 | exact fm15 | exact fm12 | exact fm56 | exact fm6 | exact fm54 | exact fm55 | exact fm2 | exact lit_168_1 rfl | exact OpH.mkfn | exact OpH.mkclo1 rfl | exact OpH.mkclo2 rfl rfl | exact fm8 | exact fm9 | exact fm42 | exact fm4 | exact fm1 | exact fm3 | fail) : p := h
theorem stpCaoZ_1 {G G' : Prop} (h' : G') (h : Hidd G' → G := by (first | (intro h; (first | (refine LT.consT ?_; (first | refine T.box (e := 30) (cs := [.val _]) rfl rfl (by decide) rfl rfl ?_ | refine T.boxS (e := 30) rfl (.sl _ _) (by decide) rfl rfl ?_ | refine T.boxS (e := 30) rfl (.row _ _ _ _) (by decide) rfl rfl ?_ | refine T.boxS (e := 30) rfl (.full _ _) (by decide) rfl rfl ?_ | refine T.box (e := 46) (cs := [.val _, .val _, .val _, .val _, .val _, .val _]) rfl rfl (by decide) rfl rfl ?_)) | ((first | apply LT.cons1 | (apply LT.guard1; rfl; rfl; rfl; decide)); exact arm83_1; (try decide))); exact h.1) | fail)) : G := h ⟨h'⟩
set_option maxRecDepth 100000 in
set_option maxHeartbeats 4000000 in
theorem g_cInsert (l : List Slt) (x : Ent) (hl : l.length ≤ 60000) : Good Tryz.prog 83 [.sl 7 (l.map encS), .val (.agg #[.int .u64 x.w.v.x, .int .u64 x.w.v.y, .int .u64 x.w.m.x, .int .u64 x.w.m.y, .int .i64 x.len, .int .i64 x.act])] (.tup [.sl 8 ((insC l x).1.map encX), .val (.int .i64 (insC l x).2)]) := by
  have gG := g_Gap l x (by omega)
  have gK := g_cKept l (by omega)
  have gR : Good Tryz.prog 61 [.val (.agg #[.int .u64 x.w.v.x, .int .u64 x.w.v.y, .int .u64 x.w.m.x, .int .u64 x.w.m.y, .int .i64 x.len, .int .i64 x.act])] (.val (.bool (eRight x))) := g_eRight _ _ _ _ _ _
  have hfb := gapFrom_bound l x
  have htb := gapTo_bound l x
  have hin1 := wayG_in (nx := nextB l) (n := l.length) (fun a h1 h2 => (nextB_bound l h1 h2).2.2.2) (l.length + 1) (gapTo l x)
  have hin2 := wayG_in (nx := nextA l) (n := l.length) (fun a h1 h2 => (nextA_bound l h1 h2).2.2.2) (l.length + 1) (gapFrom l x - 1)
  have hle1 := wayG_length (nx := nextB l) (n := l.length) (l.length + 1) (gapTo l x)
  have hle2 := wayG_length (nx := nextA l) (n := l.length) (l.length + 1) (gapFrom l x - 1)
  have hins : insC l x = insC l x := rfl
  conv at hins => rhs; unfold insC
  generalize insC l x = r at hins ⊢
  cases hr : eRight x with
  | false =>
    rw [if_pos hr] at hins
    rw [hins]
    rw [hr] at gR
    refine Good.of_body (T := [(0, _), (1, _)]) Tryz.func83 rfl rfl rfl ?_
    intro K0 w0 hno
    repeat' (first | (refine CT.sub (S' := ⟨[(4, .sl 8 (([] : List Wrt).map encX)), (5, .val (.int .i64 1))], [], []⟩) ?_ (CT.ret ?_)) | ((first | apply LT.cons1 | (apply LT.guard1; rfl; rfl; rfl; decide)); (first | exact OpH.callF Tryz.func112 rfl rfl rfl gG rfl | exact OpH.callF Tryz.func61 rfl rfl rfl gR rfl); (try decide)) | refine stpCaoZ_1 ?_ | refine stp ?_ | (refine stq ?_ ?_ <;> intro _))
    · exact subT
    · refine ⟨by first | exact .inl rfl | exact .inr rfl, _, (.cons (.tmp 4 (A := .sl _ _) rfl (fun _ h => by cases h)) (.cons (.tmp 5 (A := .val _) rfl (fun _ h => by cases h)) .nil)), ?_, rfl⟩
      rfl
  | true =>
    rw [if_neg (by rw [hr]; decide)] at hins
    rw [hr] at gR
    by_cases hk : ordered (entsS l) = false ∨ (gapTo l x : Int) < gapFrom l x
    · rw [if_pos hk] at hins
      rw [hins]
      refine Good.of_body (T := [(0, _), (1, _)]) Tryz.func83 rfl rfl rfl ?_
      intro K0 w0 hno
      cases ho : ordered (entsS l) with
      | false =>
        rw [ho] at gK
        repeat' (first | (refine CT.sub (S' := ⟨[(4, .sl 8 (([] : List Wrt).map encX)), (5, .val (.int .i64 7))], [], []⟩) ?_ (CT.ret ?_)) | ((first | apply LT.cons1 | (apply LT.guard1; rfl; rfl; rfl; decide)); (first | exact OpH.callF Tryz.func112 rfl rfl rfl gG rfl | exact OpH.callF Tryz.func61 rfl rfl rfl gR rfl | exact OpH.callF Tryz.func82 rfl rfl rfl gK rfl); (try decide)) | refine stpCaoZ_1 ?_ | refine stp ?_ | (refine stq ?_ ?_ <;> intro _))
        · exact subT
        · refine ⟨by first | exact .inl rfl | exact .inr rfl, _, (.cons (.tmp 4 (A := .sl _ _) rfl (fun _ h => by cases h)) (.cons (.tmp 5 (A := .val _) rfl (fun _ h => by cases h)) .nil)), ?_, rfl⟩
          rfl
      | true =>
        rw [ho] at gK
        have hlt : (gapTo l x : Int) < gapFrom l x := by
          rcases hk with h | h
          · rw [ho] at h; cases h
          · exact h
        repeat' (first | (refine CT.sub (S' := ⟨[(4, .sl 8 (([] : List Wrt).map encX)), (5, .val (.int .i64 7))], [], []⟩) ?_ (CT.ret ?_)) | ((first | apply LT.cons1 | (apply LT.guard1; rfl; rfl; rfl; decide)); (first | exact OpH.callF Tryz.func112 rfl rfl rfl gG rfl | exact OpH.callF Tryz.func61 rfl rfl rfl gR rfl | exact OpH.callF Tryz.func82 rfl rfl rfl gK rfl); (try decide)) | refine stpCaoZ_1 ?_ | refine stp ?_ | (refine stq ?_ ?_ <;> intro _))
        · exact subT
        · refine ⟨by first | exact .inl rfl | exact .inr rfl, _, (.cons (.tmp 4 (A := .sl _ _) rfl (fun _ h => by cases h)) (.cons (.tmp 5 (A := .val _) rfl (fun _ h => by cases h)) .nil)), ?_, rfl⟩
          rfl
    · rw [if_neg hk] at hins
      have ho : ordered (entsS l) = true := by
        cases h : ordered (entsS l) with
        | true => rfl
        | false => exact absurd (.inl h) hk
      have hft : gapFrom l x ≤ gapTo l x := by
        refine Classical.byContradiction fun h => hk (.inr (by omega))
      rw [ho] at gK
      have gE := g_emptyF l (gapFrom l x).toNat (gapTo l x) (by omega) htb (by omega)
      rw [Int.toNat_of_nonneg hfb.1] at gE
      have gB := g_walkB l (gapTo l x) (by omega) (by omega)
      have gA := g_walkA l (gapFrom l x - 1) (by omega)
      have hem : emFirst l (gapFrom l x).toNat (gapTo l x) < l.length := by
        rcases emFirst_spec l (show (gapFrom l x).toNat ≤ gapTo l x by omega) with ⟨h, _⟩ | ⟨r, h, h2, h3, _⟩
        · rw [h]; omega
        · rw [h]; omega
      change ∀ v ∈ wayB l (gapTo l x), 0 ≤ v ∧ v < l.length at hin1
      change ∀ v ∈ wayA l (gapFrom l x - 1), 0 ≤ v ∧ v < l.length at hin2
      change (wayB l (gapTo l x)).length ≤ _ at hle1
      change (wayA l (gapFrom l x - 1)).length ≤ _ at hle2
      clear hk ho
      generalize emFirst l (gapFrom l x).toNat (gapTo l x) = em at hins gE hem
      generalize wayB l (gapTo l x) = wb at hins gB hin1 hle1
      generalize wayA l (gapFrom l x - 1) = wa at hins gA hin2 hle2
      generalize gapFrom l x = gf at gG gE gA hfb hft
      generalize gapTo l x = gt at gG gE gB htb hft
      by_cases h0 : 0 ≤ em
      · rw [if_pos h0] at hins
        have gW := g_writes l x [em] (by simp) (fun v hv => by rw [List.mem_singleton.1 hv]; exact ⟨h0, hem⟩) (by omega) (by simp)
        rw [hins]
        dsimp only
        generalize writesOf l x [em] = ws at gW
        refine Good.of_body (T := [(0, _), (1, _)]) Tryz.func83 rfl rfl rfl ?_
        intro K0 w0 hno
        repeat' (first | (refine LT.consT ?_; refine T.callRow Tryz.func114 rfl rfl rfl gW (by decide) rfl ?_) | (refine CT.sub (S' := ⟨[(4, .sl 8 (ws.map encX)), (5, .val (.int .i64 0))], [], []⟩) ?_ (CT.ret ?_)) | ((first | apply LT.cons1 | (apply LT.guard1; rfl; rfl; rfl; decide)); (first | exact OpH.callF Tryz.func112 rfl rfl rfl gG rfl | exact OpH.callF Tryz.func61 rfl rfl rfl gR rfl | exact OpH.callF Tryz.func82 rfl rfl rfl gK rfl | exact OpH.callF Tryz.func113 rfl rfl rfl gE rfl); (try decide)) | refine stpCaoZ_1 ?_ | refine stp ?_ | (refine stq ?_ ?_ <;> intro _))
        · exact subT
        · refine ⟨by first | exact .inl rfl | exact .inr rfl, _, (.cons (.tmp 4 (A := .sl _ _) rfl (fun _ h => by cases h)) (.cons (.tmp 5 (A := .val _) rfl (fun _ h => by cases h)) .nil)), ?_, rfl⟩
          rfl
      · rw [if_neg h0] at hins
        by_cases hz : wb.length + wa.length = 0
        · rw [if_pos hz] at hins
          rw [hins]
          refine Good.of_body (T := [(0, _), (1, _)]) Tryz.func83 rfl rfl rfl ?_
          intro K0 w0 hno
          repeat' (first | (refine LT.consT ?_; refine T.callRowP Tryz.func115 rfl rfl (.cons (.b (.a (AV.arg_of _))) (.cons (.b (.a (AV.arg_of _))) (.cons (.fn (NextIs (nextB l) l.length) rfl rfl Tryz.func116 rfl rfl (spec1 l (by omega))) .nil))) gB (by decide) rfl ?_) | (refine LT.consT ?_; refine T.callRowP Tryz.func115 rfl rfl (.cons (.b (.a (AV.arg_of _))) (.cons (.b (.a (AV.arg_of _))) (.cons (.fn (NextIs (nextA l) l.length) rfl rfl Tryz.func118 rfl rfl (spec2 l (by omega))) .nil))) gA (by decide) rfl ?_) | (refine CT.sub (S' := ⟨[(4, .sl 8 (([] : List Wrt).map encX)), (5, .val (.int .i64 3))], [], []⟩) ?_ (CT.ret ?_)) | ((first | apply LT.cons1 | (apply LT.guard1; rfl; rfl; rfl; decide)); (first | exact OpH.callF Tryz.func112 rfl rfl rfl gG rfl | exact OpH.callF Tryz.func61 rfl rfl rfl gR rfl | exact OpH.callF Tryz.func82 rfl rfl rfl gK rfl | exact OpH.callF Tryz.func113 rfl rfl rfl gE rfl); (try decide)) | refine stpCaoZ_1 ?_ | refine stp ?_ | (refine stq ?_ ?_ <;> intro _))
          · exact subT
          · refine ⟨by first | exact .inl rfl | exact .inr rfl, _, (.cons (.tmp 4 (A := .sl _ _) rfl (fun _ h => by cases h)) (.cons (.tmp 5 (A := .val _) rfl (fun _ h => by cases h)) .nil)), ?_, rfl⟩
            rfl
        · rw [if_neg hz] at hins
          have hcase : (wb.length = 0 ∧ 0 < wa.length) ∨ (¬ wb.length = 0 ∧ 0 < wa.length ∧ wa.length < wb.length) ∨ (¬ wb.length = 0 ∧ 0 < wa.length ∧ ¬ wa.length < wb.length) ∨ (¬ wb.length = 0 ∧ ¬ 0 < wa.length) := by omega
          have key : ∀ ws : List Wrt, Good Tryz.prog 83 [.sl 7 (l.map encS), .val (.agg #[.int .u64 x.w.v.x, .int .u64 x.w.v.y, .int .u64 x.w.m.x, .int .u64 x.w.m.y, .int .i64 x.len, .int .i64 x.act])] (.tup [.sl 8 (ws.map encX), .val (.int .i64 0)]) → r = (ws, 0) → Good Tryz.prog 83 [.sl 7 (l.map encS), .val (.agg #[.int .u64 x.w.v.x, .int .u64 x.w.v.y, .int .u64 x.w.m.x, .int .u64 x.w.m.y, .int .i64 x.len, .int .i64 x.act])] (.tup [.sl 8 (r.1.map encX), .val (.int .i64 r.2)]) := fun ws h e => by rw [e]; exact h
          rcases hcase with ⟨c1, c2⟩ | ⟨c1, c2, c3⟩ | ⟨c1, c2, c3⟩ | ⟨c1, c2⟩
          · rw [if_pos (.inl c1)] at hins
            refine key _ ?_ hins
            have gW := g_writes l x wa c2 hin2 (by omega) (by omega)
            generalize writesOf l x wa = ws at gW
            refine Good.of_body (T := [(0, _), (1, _)]) Tryz.func83 rfl rfl rfl ?_
            intro K0 w0 hno
            repeat' (first | (refine LT.consT ?_; refine T.callRowP Tryz.func115 rfl rfl (.cons (.b (.a (AV.arg_of _))) (.cons (.b (.a (AV.arg_of _))) (.cons (.fn (NextIs (nextB l) l.length) rfl rfl Tryz.func116 rfl rfl (spec1 l (by omega))) .nil))) gB (by decide) rfl ?_) | (refine LT.consT ?_; refine T.callRowP Tryz.func115 rfl rfl (.cons (.b (.a (AV.arg_of _))) (.cons (.b (.a (AV.arg_of _))) (.cons (.fn (NextIs (nextA l) l.length) rfl rfl Tryz.func118 rfl rfl (spec2 l (by omega))) .nil))) gA (by decide) rfl ?_) | (refine LT.consT ?_; refine T.callRow Tryz.func114 rfl rfl rfl gW (by decide) rfl ?_) | (refine CT.sub (S' := ⟨[(4, .sl 8 (ws.map encX)), (5, .val (.int .i64 0))], [], []⟩) ?_ (CT.ret ?_)) | ((first | apply LT.cons1 | (apply LT.guard1; rfl; rfl; rfl; decide)); (first | exact OpH.callF Tryz.func112 rfl rfl rfl gG rfl | exact OpH.callF Tryz.func61 rfl rfl rfl gR rfl | exact OpH.callF Tryz.func82 rfl rfl rfl gK rfl | exact OpH.callF Tryz.func113 rfl rfl rfl gE rfl); (try decide)) | refine stpCaoZ_1 ?_ | refine stp ?_ | (refine stq ?_ ?_ <;> intro _))
            · exact subT
            · refine ⟨by first | exact .inl rfl | exact .inr rfl, _, (.cons (.tmp 4 (A := .sl _ _) rfl (fun _ h => by cases h)) (.cons (.tmp 5 (A := .val _) rfl (fun _ h => by cases h)) .nil)), ?_, rfl⟩
              rfl
          · rw [if_pos (.inr ⟨c2, c3⟩)] at hins
            refine key _ ?_ hins
            have gW := g_writes l x wa c2 hin2 (by omega) (by omega)
            generalize writesOf l x wa = ws at gW
            refine Good.of_body (T := [(0, _), (1, _)]) Tryz.func83 rfl rfl rfl ?_
            intro K0 w0 hno
            repeat' (first | (refine LT.consT ?_; refine T.callRowP Tryz.func115 rfl rfl (.cons (.b (.a (AV.arg_of _))) (.cons (.b (.a (AV.arg_of _))) (.cons (.fn (NextIs (nextB l) l.length) rfl rfl Tryz.func116 rfl rfl (spec1 l (by omega))) .nil))) gB (by decide) rfl ?_) | (refine LT.consT ?_; refine T.callRowP Tryz.func115 rfl rfl (.cons (.b (.a (AV.arg_of _))) (.cons (.b (.a (AV.arg_of _))) (.cons (.fn (NextIs (nextA l) l.length) rfl rfl Tryz.func118 rfl rfl (spec2 l (by omega))) .nil))) gA (by decide) rfl ?_) | (refine LT.consT ?_; refine T.callRow Tryz.func114 rfl rfl rfl gW (by decide) rfl ?_) | (refine CT.sub (S' := ⟨[(4, .sl 8 (ws.map encX)), (5, .val (.int .i64 0))], [], []⟩) ?_ (CT.ret ?_)) | ((first | apply LT.cons1 | (apply LT.guard1; rfl; rfl; rfl; decide)); (first | exact OpH.callF Tryz.func112 rfl rfl rfl gG rfl | exact OpH.callF Tryz.func61 rfl rfl rfl gR rfl | exact OpH.callF Tryz.func82 rfl rfl rfl gK rfl | exact OpH.callF Tryz.func113 rfl rfl rfl gE rfl); (try decide)) | refine stpCaoZ_1 ?_ | refine stp ?_ | (refine stq ?_ ?_ <;> intro _))
            · exact subT
            · refine ⟨by first | exact .inl rfl | exact .inr rfl, _, (.cons (.tmp 4 (A := .sl _ _) rfl (fun _ h => by cases h)) (.cons (.tmp 5 (A := .val _) rfl (fun _ h => by cases h)) .nil)), ?_, rfl⟩
              rfl
          all_goals
            rw [if_neg (by omega)] at hins
            refine key _ ?_ hins
            have gW := g_writes l x wb (by omega) hin1 (by omega) (by omega)
            generalize writesOf l x wb = ws at gW
            refine Good.of_body (T := [(0, _), (1, _)]) Tryz.func83 rfl rfl rfl ?_
            intro K0 w0 hno
            repeat' (first | (refine LT.consT ?_; refine T.callRowP Tryz.func115 rfl rfl (.cons (.b (.a (AV.arg_of _))) (.cons (.b (.a (AV.arg_of _))) (.cons (.fn (NextIs (nextB l) l.length) rfl rfl Tryz.func116 rfl rfl (spec1 l (by omega))) .nil))) gB (by decide) rfl ?_) | (refine LT.consT ?_; refine T.callRowP Tryz.func115 rfl rfl (.cons (.b (.a (AV.arg_of _))) (.cons (.b (.a (AV.arg_of _))) (.cons (.fn (NextIs (nextA l) l.length) rfl rfl Tryz.func118 rfl rfl (spec2 l (by omega))) .nil))) gA (by decide) rfl ?_) | (refine LT.consT ?_; refine T.callRow Tryz.func114 rfl rfl rfl gW (by decide) rfl ?_) | (refine CT.sub (S' := ⟨[(4, .sl 8 (ws.map encX)), (5, .val (.int .i64 0))], [], []⟩) ?_ (CT.ret ?_)) | ((first | apply LT.cons1 | (apply LT.guard1; rfl; rfl; rfl; decide)); (first | exact OpH.callF Tryz.func112 rfl rfl rfl gG rfl | exact OpH.callF Tryz.func61 rfl rfl rfl gR rfl | exact OpH.callF Tryz.func82 rfl rfl rfl gK rfl | exact OpH.callF Tryz.func113 rfl rfl rfl gE rfl); (try decide)) | refine stpCaoZ_1 ?_ | refine stp ?_ | (refine stq ?_ ?_ <;> intro _))
            · exact subT
            · refine ⟨by first | exact .inl rfl | exact .inr rfl, _, (.cons (.tmp 4 (A := .sl _ _) rfl (fun _ h => by cases h)) (.cons (.tmp 5 (A := .val _) rfl (fun _ h => by cases h)) .nil)), ?_, rfl⟩
              rfl
end Go.Proofs.YtjmnnkhdadoehaaGreat
