/- plo.empty, slices.IndexFunc at it, last, shift. -/
import Derived.Test.YtjmnnkhdadoehaaGreatYCaoQ
namespace Go.Proofs.YtjmnnkhdadoehaaGreat
set_option linter.unusedSimpArgs false
set_option linter.unusedVariables false
open Go Go.RowKit Go.Shelf
theorem emFirst_part (l : List Slt) {k m : Nat} (h : k ≤ m) (hm : m ≤ l.length) :
    emFirst ((l.take m).drop k) 0 ((l.take m).drop k).length = if 0 ≤ emFirst l k m then emFirst l k m - k else -1 := by
  have hln : ((l.take m).drop k).length = m - k := by rw [List.length_drop, List.length_take]; omega
  have hn : ∀ j, j < m - k → nth ((l.take m).drop k) j = nth l (k + j) := fun j hj => by
    rw [nth_at _ (by omega), nth_at _ (by omega)]
    simp
  rcases emFirst_spec ((l.take m).drop k) (Nat.zero_le ((l.take m).drop k).length) with ⟨a1, a2⟩ | ⟨r, a1, a2, a3, a4, a5⟩
  · rcases emFirst_spec l h with ⟨b1, b2⟩ | ⟨q, b1, b2, b3, b4, b5⟩
    · rw [a1, b1, if_neg (by omega)]
    · have := a2 (q - k) (by omega) (by omega)
      rw [hn _ (by omega), show k + (q - k) = q by omega, b4] at this
      cases this
  · rcases emFirst_spec l h with ⟨b1, b2⟩ | ⟨q, b1, b2, b3, b4, b5⟩
    · have := b2 (k + r) (by omega) (by omega)
      rw [← hn _ (by omega), a4] at this
      cases this
    · rw [a1, b1, if_pos (by omega)]
      rcases Nat.lt_trichotomy (k + r) q with c | c | c
      · have := b5 (k + r) (by omega) c
        rw [← hn _ (by omega), a4] at this
        cases this
      · omega
      · have := a5 (q - k) (by omega) (by omega)
        rw [hn _ (by omega), show k + (q - k) = q by omega, b4] at this
        cases this
theorem emFirst_partD (l : List Slt) {k : Nat} (h : k ≤ l.length) :
    emFirst (l.drop k) 0 (l.drop k).length = if 0 ≤ emFirst l k l.length then emFirst l k l.length - k else -1 := by
  have := emFirst_part l h (Nat.le_refl _)
  rwa [List.take_length] at this
theorem Good.asSl {P : Program} {f : FuncId} {As : List AV} {r e k : Nat} {xs : Cells} (hg : Good P f As (.row r e k xs)) : Good P f As (.sl k xs) := by
  intro K w cargs hok hlen hrep
  refine (hg K w cargs hok hlen hrep).mono ?_
  rintro e' w' ⟨c, K', rfl, h1, h2, h3, h4, ρ, h5, _⟩
  exact ⟨c, K', rfl, h1, h2, h3, h4, ρ, h5.2, fun r e k xs h => (by rcases h with h | ⟨_, h, _⟩ <;> cases h), fun r e k xs r' e' k' xs' g h => (by rcases h with h | ⟨_, h, _⟩ <;> cases h)⟩
attribute [local irreducible] OpH OpT LT CT HT Good
theorem arm108_1 {p : Prop} (h : p := by first | exact fm0 | exact fm27 | exact fm18 | exact fm52 | exact fm56 | fail) : p := h
set_option maxRecDepth 100000 in
set_option maxHeartbeats 2000000 in
theorem g_ploEmpty (s : Slt) : Good Tryz.prog 108 [.val (.agg #[.bool s.valid, .int .u64 s.e.w.v.x, .int .u64 s.e.w.v.y, .int .u64 s.e.w.m.x, .int .u64 s.e.w.m.y, .int .i64 s.e.len, .int .i64 s.e.act])] (.val (.bool (!s.valid))) := by
  refine Good.of_body (T := [(0, _)]) Tryz.func108 rfl rfl rfl ?_
  intro K0 w0 hno
  repeat' (first | (refine LT.consT ?_; (first | refine T.box (e := 48) (cs := [.val _, .val _, .val _, .val _, .val _, .val _, .val _]) rfl rfl (by decide) rfl rfl ?_)) | (apply LT.cons1; exact arm108_1; (try decide)) | refine stp ?_ | (refine stq ?_ ?_ <;> intro _))
  refine ⟨by first | exact .inl rfl | exact .inr rfl, _, (.cons (.tmp 2 (A := .val _) rfl (fun _ h => by cases h)) .nil), ?_, rfl⟩
  rfl
theorem arm71_1 {p : Prop} (h : p := by first | exact fm0 | exact fm53 | exact fm45 | exact fm6 | exact fm40 | exact fm65 | exact fm4 | fail) : p := h
set_option maxRecDepth 100000 in
set_option maxHeartbeats 2000000 in
theorem g_IndexEmpty (xs : List Slt) (hl : xs.length ≤ 65536) : Good Tryz.prog 71 [.sl 7 (xs.map encS), .val (.func (.func 108) #[] #[])] (.val (.int .i64 (emFirst xs 0 xs.length))) := by
  refine Good.of_body (T := [(0, _), (1, _)]) Tryz.func71 rfl rfl rfl ?_
  intro K0 w0 hno
  repeat' (first | (apply LT.cons1; exact arm71_1; (try decide)) | refine stp ?_ | (refine stq ?_ ?_ <;> intro _))
  refine CT.loopX (fun k : Nat => (⟨[(0, .sl 7 (xs.map encS)), (1, .val (.func (.func 108) #[] #[])), (7, .val (.int .i64 xs.length)), (8, .val (.int .i64 k))], [], []⟩ : St))
    (fun k => k ≤ xs.length ∧ ∀ j, j < k → (nth xs j).valid = true) (fun k => xs.length - k) 0 ?_ ⟨by omega, fun j h => by omega⟩ ?_
  · exact subT
  rintro k ⟨hk, hc⟩
  have hsp := emFirst_spec xs (Nat.zero_le xs.length)
  by_cases hlt : k < xs.length
  · cases hs : xs[k] with
    | mk v e =>
      have hat := slot_at hlt hs
      have hn := nth_is hlt hs
      have gE := g_ploEmpty ⟨v, e⟩
      cases v with
      | true =>
        repeat' (first | (apply LT.cons1; (first | exact OpH.indexS (t := 30) (k := 7) (j := k) rfl slP rfl rfl (by kernel_rfl) hat rfl | exact OpH.callV rfl Tryz.func108 rfl rfl rfl gE rfl); (try decide)) | (apply LT.cons1; exact arm71_1; (try decide)) | refine stp ?_ | (refine stq ?_ ?_ <;> intro _))
        refine ⟨k + 1, ⟨by omega, fun j hj => ?_⟩, by omega, ?_⟩
        · by_cases ej : j = k
          · subst ej; rw [hn]
          · exact hc j (by omega)
        · exact subT
      | false =>
        have hr : emFirst xs 0 xs.length = k := by
          rcases hsp with ⟨_, a2⟩ | ⟨r, a1, a2, a3, a4, a5⟩
          · have := a2 k (by omega) hlt
            rw [hn] at this; cases this
          · rw [a1]
            congr 1
            rcases Nat.lt_trichotomy r k with c | c | c
            · rw [hc r c] at a4; cases a4
            · exact c
            · have := a5 k (by omega) c
              rw [hn] at this; cases this
        repeat' (first | (apply LT.cons1; (first | exact OpH.indexS (t := 30) (k := 7) (j := k) rfl slP rfl rfl (by kernel_rfl) hat rfl | exact OpH.callV rfl Tryz.func108 rfl rfl rfl gE rfl); (try decide)) | (apply LT.cons1; exact arm71_1; (try decide)) | refine stp ?_ | (refine stq ?_ ?_ <;> intro _))
        refine ⟨by first | exact .inl rfl | exact .inr rfl, _, (.cons (.tmp 4 (A := .val _) rfl (fun _ h => by cases h)) .nil), ?_, rfl⟩
        rw [hr]; rfl
  · obtain rfl : k = xs.length := by omega
    have hr : emFirst xs 0 xs.length = -1 := by
      rcases hsp with ⟨a1, _⟩ | ⟨r, a1, a2, a3, a4, a5⟩
      · exact a1
      · rw [hc r a3] at a4; cases a4
    repeat' (first | (apply LT.cons1; exact arm71_1; (try decide)) | refine stp ?_ | (refine stq ?_ ?_ <;> intro _))
    refine ⟨by first | exact .inl rfl | exact .inr rfl, _, (.cons (.tmp 4 (A := .val _) rfl (fun _ h => by cases h)) .nil), ?_, rfl⟩
    rw [hr]; rfl
theorem arm110_1 {p : Prop} (h : p := by first | exact fm0 | exact fm53 | exact fm8 | exact fm9 | exact fm2 | exact fm40 | exact fm65 | fail) : p := h
set_option maxRecDepth 100000 in
set_option maxHeartbeats 2000000 in
theorem g_last (l : List Slt) (n : Nat) (hn0 : n ≤ l.length) (hl : l.length ≤ 65536) : Good Tryz.prog 110 [.sl 7 (l.map encS), .val (.int .i64 n)] (.val (.int .i64 (emLast l 0 n))) := by
  refine Good.of_body (T := [(0, _), (1, _)]) Tryz.func110 rfl rfl rfl ?_
  intro K0 w0 hno
  repeat' (first | (apply LT.cons1; exact arm110_1; (try decide)) | refine stp ?_ | (refine stq ?_ ?_ <;> intro _))
  refine CT.loopX (fun m : Nat => (⟨[(0, .sl 7 (l.map encS)), (5, .val (.int .i64 ((m : Int) - 1)))], [], []⟩ : St))
    (fun m => m ≤ n ∧ ∀ j, m ≤ j → j < n → (nth l j).valid = true) (fun m => m) n ?_ ⟨by omega, fun j h1 h2 => by omega⟩ ?_
  · exact subT
  rintro m ⟨hm, hc⟩
  have hsp := emLast_spec l 0 n
  cases m with
  | zero =>
    have hr : emLast l 0 n = -1 := by
      rcases hsp with ⟨a1, _⟩ | ⟨r, a1, a2, a3, a4, a5⟩
      · exact a1
      · rw [hc r (by omega) a3] at a4; cases a4
    repeat' (first | (apply LT.cons1; exact arm110_1; (try decide)) | refine stp ?_ | (refine stq ?_ ?_ <;> intro _))
    refine ⟨by first | exact .inl rfl | exact .inr rfl, _, (.cons (.tmp 4 (A := .val _) rfl (fun _ h => by cases h)) .nil), ?_, rfl⟩
    rw [hr]; rfl
  | succ k =>
    have hlt : k < l.length := by omega
    cases hs : l[k] with
    | mk v e =>
      have hat := slot_at hlt hs
      have hn := nth_is hlt hs
      have hk1 : ((k + 1 : Nat) : Int) - 1 = k := by omega
      rw [hk1]
      have gE := g_ploEmpty ⟨v, e⟩
      cases v with
      | true =>
        repeat' (first | (apply LT.cons1; (first | exact OpH.indexS (t := 30) (k := 7) (j := k) rfl slP rfl rfl (by kernel_rfl) hat rfl | exact OpH.callF Tryz.func108 rfl rfl rfl gE rfl); (try decide)) | (apply LT.cons1; exact arm110_1; (try decide)) | refine stp ?_ | (refine stq ?_ ?_ <;> intro _))
        refine ⟨k, ⟨by omega, fun j h1 h2 => ?_⟩, by omega, ?_⟩
        · by_cases ej : j = k
          · subst ej; rw [hn]
          · exact hc j (by omega) h2
        · exact subT
      | false =>
        have hr : emLast l 0 n = k := by
          rcases hsp with ⟨_, a2⟩ | ⟨r, a1, a2, a3, a4, a5⟩
          · have := a2 k (by omega) (by omega)
            rw [hn] at this; cases this
          · rw [a1]
            congr 1
            rcases Nat.lt_trichotomy r k with c | c | c
            · have := a5 k c (by omega)
              rw [hn] at this; cases this
            · exact c
            · rw [hc r (by omega) a3] at a4; cases a4
        repeat' (first | (apply LT.cons1; (first | exact OpH.indexS (t := 30) (k := 7) (j := k) rfl slP rfl rfl (by kernel_rfl) hat rfl | exact OpH.callF Tryz.func108 rfl rfl rfl gE rfl); (try decide)) | (apply LT.cons1; exact arm110_1; (try decide)) | refine stp ?_ | (refine stq ?_ ?_ <;> intro _))
        refine ⟨by first | exact .inl rfl | exact .inr rfl, _, (.cons (.tmp 4 (A := .val _) rfl (fun _ h => by cases h)) .nil), ?_, rfl⟩
        rw [hr]; rfl
theorem arm109_1 {p : Prop} (h : p := by first | exact fm0 | exact fm53 | exact fm7 | exact fm4 | exact fm40 | exact fm28 | exact fm19 | exact fm25 | exact fm16 | exact fm50 | exact fm1 | exact fm54 | exact fm55 | exact fm65 | exact build_50_0_1 rfl rfl | exact fm11 | exact lit_37_1 rfl | exact fm63 | exact build_48_0_1 rfl rfl | exact fm10 | fail) : p := h
theorem stpPloW_1 {G G' : Prop} (h' : G') (h : Hidd G' → G := by (first | (intro h; (first | refine CT.seqD (id := 4) 21 (by kernel_rfl) (by kernel_rfl) ?_ | refine CT.draw (id := 4) 21 (by kernel_rfl) (by kernel_rfl) ?_ | (refine LT.consT ?_; (first | refine T.box (e := 46) (cs := [.val _, .val _, .val _, .val _, .val _, .val _]) rfl rfl (by decide) rfl rfl ?_ | refine T.appNil (t := 37) (e := 50) (k := 8) (bytes := 64) rfl rfl srP (by kernel_rfl) szP (by decide) rfl ?_ | refine T.app (t := 37) (e := 50) (k := 8) (bytes := 64) rfl rfl srP (by kernel_rfl) szP (by decide) rfl rfl ?_)) | ((first | apply LT.cons1 | (apply LT.guard1; rfl; rfl; rfl; decide) | apply HT.cons1 | (apply HT.guard1; rfl; rfl; rfl)); exact arm109_1; (try decide))); exact h.1) | fail)) : G := h ⟨h'⟩
set_option maxRecDepth 100000 in
set_option maxHeartbeats 4000000 in
theorem g_shiftB (l : List Slt) (x : Ent) (to a0 : Nat) (h1 : to ≤ a0) (h2 : a0 < l.length) (hs : ∀ i j, to ≤ i → i ≤ j → j < a0 → lenAt l j ≤ lenAt l i) (hl : l.length ≤ 60000) :
    Good Tryz.prog 109 [.sl 7 (l.map encS), .val (.int .i64 a0), .val (.int .i64 to), .val (.int .i64 (-1)), .val (.agg #[.int .u64 x.w.v.x, .int .u64 x.w.v.y, .int .u64 x.w.m.x, .int .u64 x.w.m.y, .int .i64 x.len, .int .i64 x.act])] (.row 60 50 8 ((shB l x to a0).map encX)) := by
  refine Good.of_body (T := [(0, _), (1, _), (2, _), (3, _), (4, _)]) Tryz.func109 rfl rfl rfl ?_
  intro K0 w0 hno
  repeat' (first | refine stpPloW_1 ?_ | refine stp ?_ | (refine stq ?_ ?_ <;> intro _))
  refine CT.loopX (fun q : Nat × List Wrt => (⟨[(0, .sl 7 (l.map encS)), (1, .val (.int .i64 q.1)), (2, .val (.int .i64 to)), (3, .val (.int .i64 (-1))), (9, .ptr 9 0), (11, .row 11 50 8 (q.2.map encX))], [(9, (encE x).map AV.val)], []⟩ : St))
    (fun q => to ≤ q.1 ∧ q.1 ≤ a0 ∧ q.2.length ≤ a0 - q.1 ∧ q.2 ++ shB l x to q.1 = shB l x to a0) (fun q => q.1) (a0, []) ?_ ⟨h1, Nat.le_refl _, Nat.zero_le _, rfl⟩ ?_
  · exact subT
  rintro ⟨a, out⟩ ⟨q1, q2, q3, q4⟩
  dsimp only at q1 q2 q3 q4 ⊢
  by_cases hlt : to < a
  · repeat' (first | refine stpPloW_1 ?_ | refine stp ?_ | (refine stq ?_ ?_ <;> intro _))
    refine CT.loopX (fun k : Nat => (⟨[(0, .sl 7 (l.map encS)), (1, .val (.int .i64 a)), (2, .val (.int .i64 to)), (3, .val (.int .i64 (-1))), (9, .ptr 9 0), (11, .row 11 50 8 (out.map encX)), (12, .val (.int .i64 k))], [(9, (encE x).map AV.val)], []⟩ : St))
      (fun k => to ≤ k ∧ k + 1 ≤ a ∧ ∀ j, k ≤ j → j < a → lenAt l j = lenAt l (a - 1)) (fun k => k) (a - 1) ?_ ⟨by omega, by omega, fun j p1 p2 => by rw [show j = a - 1 by omega]⟩ ?_
    · exact subT
    rintro k ⟨p1, p2, p3⟩
    have ha1 : a - 1 < l.length := by omega
    have hk0 : k < l.length := by omega
    obtain ⟨s2, e2⟩ : ∃ s, l[a - 1] = s := ⟨_, rfl⟩
    have at2 := slot_at ha1 e2
    have n2 : lenAt l (a - 1) = s2.e.len := by unfold lenAt; rw [nth_is ha1 e2]
    obtain ⟨s3, e3⟩ : ∃ s, l[k] = s := ⟨_, rfl⟩
    have at3 := slot_at hk0 e3
    have hfin : dnB l to a = k → (out ++ [⟨a, s3⟩]) ++ shB l x to k = shB l x to a0 := fun h => by
      rw [← q4, shB_step l x hlt, h, nth_is hk0 e3, List.append_assoc]
      rfl
    by_cases c : to < k
    · have hk1 : k - 1 < l.length := by omega
      obtain ⟨s1, e1⟩ : ∃ s, l[k - 1] = s := ⟨_, rfl⟩
      have at1 := slot_at hk1 e1
      have n1 : lenAt l (k - 1) = s1.e.len := by unfold lenAt; rw [nth_is hk1 e1]
      by_cases he : s1.e.len = s2.e.len
      · repeat' (first | ((first | apply LT.cons1 | (apply LT.guard1; rfl; rfl; rfl; decide) | apply HT.cons1 | (apply HT.guard1; rfl; rfl; rfl)); (first | exact OpH.indexS (t := 30) (k := 7) (j := k - 1) rfl slP rfl (by omega) (by kernel_rfl) at1 rfl | exact OpH.indexS (t := 30) (k := 7) (j := a - 1) rfl slP rfl (by omega) (by kernel_rfl) at2 rfl); (try decide)) | refine stpPloW_1 ?_ | refine stp ?_ | (refine stq ?_ ?_ <;> intro _))
        refine ⟨k - 1, ⟨by omega, by omega, fun j z1 z2 => ?_⟩, by omega, ?_⟩
        · by_cases ej : j = k - 1
          · rw [ej, n1, n2, he]
          · exact p3 j (by omega) z2
        · exact subT
      · have hdn : dnB l to a = k := dnB_uniq p1 p2 (fun j z1 z2 hc => by
          have := hs j (k - 1) z1 (by omega) (by omega)
          have := hs (k - 1) k (by omega) (by omega) (by omega)
          have := p3 k (Nat.le_refl _) (by omega)
          omega) (p3 k (Nat.le_refl _) (by omega))
        have hfin := hfin hdn
        repeat' (first | ((first | apply LT.cons1 | (apply LT.guard1; rfl; rfl; rfl; decide) | apply HT.cons1 | (apply HT.guard1; rfl; rfl; rfl)); (first | exact OpH.indexS (t := 30) (k := 7) (j := k - 1) rfl slP rfl (by omega) (by kernel_rfl) at1 rfl | exact OpH.indexS (t := 30) (k := 7) (j := a - 1) rfl slP rfl (by omega) (by kernel_rfl) at2 rfl | exact OpH.indexS (t := 30) (k := 7) (j := k) rfl slP rfl rfl (by kernel_rfl) at3 rfl); (try decide)) | refine stpPloW_1 ?_ | refine stp ?_ | (refine stq ?_ ?_ <;> intro _))
        refine ⟨(k, out ++ [⟨a, s3⟩]), ⟨p1, by dsimp only; omega, by dsimp only; rw [List.length_append, List.length_singleton]; omega, hfin⟩, by dsimp only; omega, ?_⟩
        exact subT
    · obtain rfl : k = to := by omega
      have hdn : dnB l k a = k := dnB_uniq p1 p2 (fun j z1 z2 hc => by omega) (p3 k (Nat.le_refl _) (by omega))
      have hfin := hfin hdn
      repeat' (first | ((first | apply LT.cons1 | (apply LT.guard1; rfl; rfl; rfl; decide) | apply HT.cons1 | (apply HT.guard1; rfl; rfl; rfl)); (first | exact OpH.indexS (t := 30) (k := 7) (j := k) rfl slP rfl rfl (by kernel_rfl) at3 rfl); (try decide)) | refine stpPloW_1 ?_ | refine stp ?_ | (refine stq ?_ ?_ <;> intro _))
      refine ⟨(k, out ++ [⟨a, s3⟩]), ⟨p1, by dsimp only; omega, by dsimp only; rw [List.length_append, List.length_singleton]; omega, hfin⟩, by dsimp only; omega, ?_⟩
      exact subT
  · obtain rfl : a = to := by omega
    rw [shB_end] at q4
    rw [← q4, List.map_append]
    repeat' (first | refine stpPloW_1 ?_ | refine stp ?_ | (refine stq ?_ ?_ <;> intro _))
    refine ⟨by first | exact .inl rfl | exact .inr rfl, _, (.cons (.tmp 10 (A := .row _ _ _ _) rfl (fun _ h => by cases h)) .nil), ?_, rfl⟩
    rfl
set_option maxRecDepth 100000 in
set_option maxHeartbeats 4000000 in
theorem g_shiftA (l : List Slt) (x : Ent) (la a0 : Nat) (h1 : a0 ≤ la) (h2 : la < l.length) (hs : ∀ i j, a0 < i → i ≤ j → j ≤ la → lenAt l j ≤ lenAt l i) (hl : l.length ≤ 60000) :
    Good Tryz.prog 109 [.sl 7 (l.map encS), .val (.int .i64 a0), .val (.int .i64 la), .val (.int .i64 1), .val (.agg #[.int .u64 x.w.v.x, .int .u64 x.w.v.y, .int .u64 x.w.m.x, .int .u64 x.w.m.y, .int .i64 x.len, .int .i64 x.act])] (.row 60 50 8 ((shA l x la a0).map encX)) := by
  refine Good.of_body (T := [(0, _), (1, _), (2, _), (3, _), (4, _)]) Tryz.func109 rfl rfl rfl ?_
  intro K0 w0 hno
  repeat' (first | refine stpPloW_1 ?_ | refine stp ?_ | (refine stq ?_ ?_ <;> intro _))
  refine CT.loopX (fun q : Nat × List Wrt => (⟨[(0, .sl 7 (l.map encS)), (1, .val (.int .i64 q.1)), (2, .val (.int .i64 la)), (3, .val (.int .i64 1)), (9, .ptr 9 0), (11, .row 11 50 8 (q.2.map encX))], [(9, (encE x).map AV.val)], []⟩ : St))
    (fun q => a0 ≤ q.1 ∧ q.1 ≤ la ∧ q.2.length ≤ q.1 - a0 ∧ q.2 ++ shA l x la q.1 = shA l x la a0) (fun q => la - q.1) (a0, []) ?_ ⟨Nat.le_refl _, h1, Nat.zero_le _, rfl⟩ ?_
  · exact subT
  rintro ⟨a, out⟩ ⟨q1, q2, q3, q4⟩
  dsimp only at q1 q2 q3 q4 ⊢
  by_cases hlt : a < la
  · repeat' (first | refine stpPloW_1 ?_ | refine stp ?_ | (refine stq ?_ ?_ <;> intro _))
    refine CT.loopX (fun k : Nat => (⟨[(0, .sl 7 (l.map encS)), (1, .val (.int .i64 a)), (2, .val (.int .i64 la)), (3, .val (.int .i64 1)), (9, .ptr 9 0), (11, .row 11 50 8 (out.map encX)), (12, .val (.int .i64 k))], [(9, (encE x).map AV.val)], []⟩ : St))
      (fun k => a < k ∧ k ≤ la ∧ ∀ j, a < j → j ≤ k → lenAt l j = lenAt l (a + 1)) (fun k => la - k) (a + 1) ?_ ⟨by omega, by omega, fun j p1 p2 => by rw [show j = a + 1 by omega]⟩ ?_
    · exact subT
    rintro k ⟨p1, p2, p3⟩
    have ha1 : a + 1 < l.length := by omega
    have hk0 : k < l.length := by omega
    obtain ⟨s2, e2⟩ : ∃ s, l[a + 1] = s := ⟨_, rfl⟩
    have at2 := slot_at ha1 e2
    have n2 : lenAt l (a + 1) = s2.e.len := by unfold lenAt; rw [nth_is ha1 e2]
    obtain ⟨s3, e3⟩ : ∃ s, l[k] = s := ⟨_, rfl⟩
    have at3 := slot_at hk0 e3
    have hfin : upA l la a = k → (out ++ [⟨a, s3⟩]) ++ shA l x la k = shA l x la a0 := fun h => by
      rw [← q4, shA_step l x hlt, h, nth_is hk0 e3, List.append_assoc]
      rfl
    by_cases c : k < la
    · have hk1 : k + 1 < l.length := by omega
      obtain ⟨s1, e1⟩ : ∃ s, l[k + 1] = s := ⟨_, rfl⟩
      have at1 := slot_at hk1 e1
      have n1 : lenAt l (k + 1) = s1.e.len := by unfold lenAt; rw [nth_is hk1 e1]
      by_cases he : s1.e.len = s2.e.len
      · repeat' (first | ((first | apply LT.cons1 | (apply LT.guard1; rfl; rfl; rfl; decide) | apply HT.cons1 | (apply HT.guard1; rfl; rfl; rfl)); (first | exact OpH.indexS (t := 30) (k := 7) (j := k + 1) rfl slP rfl (by omega) (by kernel_rfl) at1 rfl | exact OpH.indexS (t := 30) (k := 7) (j := a + 1) rfl slP rfl (by omega) (by kernel_rfl) at2 rfl); (try decide)) | refine stpPloW_1 ?_ | refine stp ?_ | (refine stq ?_ ?_ <;> intro _))
        refine ⟨k + 1, ⟨by omega, by omega, fun j z1 z2 => ?_⟩, by omega, ?_⟩
        · by_cases ej : j = k + 1
          · rw [ej, n1, n2, he]
          · exact p3 j z1 (by omega)
        · exact subT
      · have hup : upA l la a = k := upA_uniq p1 p2 (fun j z1 z2 hc => by
          have := hs (k + 1) j (by omega) (by omega) z2
          have := hs k (k + 1) (by omega) (by omega) (by omega)
          have := p3 k p1 (Nat.le_refl _)
          omega) (p3 k p1 (Nat.le_refl _))
        have hfin := hfin hup
        repeat' (first | ((first | apply LT.cons1 | (apply LT.guard1; rfl; rfl; rfl; decide) | apply HT.cons1 | (apply HT.guard1; rfl; rfl; rfl)); (first | exact OpH.indexS (t := 30) (k := 7) (j := k + 1) rfl slP rfl (by omega) (by kernel_rfl) at1 rfl | exact OpH.indexS (t := 30) (k := 7) (j := a + 1) rfl slP rfl (by omega) (by kernel_rfl) at2 rfl | exact OpH.indexS (t := 30) (k := 7) (j := k) rfl slP rfl rfl (by kernel_rfl) at3 rfl); (try decide)) | refine stpPloW_1 ?_ | refine stp ?_ | (refine stq ?_ ?_ <;> intro _))
        refine ⟨(k, out ++ [⟨a, s3⟩]), ⟨by dsimp only; omega, p2, by dsimp only; rw [List.length_append, List.length_singleton]; omega, hfin⟩, by dsimp only; omega, ?_⟩
        exact subT
    · obtain rfl : k = la := by omega
      have hup : upA l k a = k := upA_uniq p1 p2 (fun j z1 z2 hc => by omega) (p3 k p1 (Nat.le_refl _))
      have hfin := hfin hup
      repeat' (first | ((first | apply LT.cons1 | (apply LT.guard1; rfl; rfl; rfl; decide) | apply HT.cons1 | (apply HT.guard1; rfl; rfl; rfl)); (first | exact OpH.indexS (t := 30) (k := 7) (j := k) rfl slP rfl rfl (by kernel_rfl) at3 rfl); (try decide)) | refine stpPloW_1 ?_ | refine stp ?_ | (refine stq ?_ ?_ <;> intro _))
      refine ⟨(k, out ++ [⟨a, s3⟩]), ⟨by dsimp only; omega, p2, by dsimp only; rw [List.length_append, List.length_singleton]; omega, hfin⟩, by dsimp only; omega, ?_⟩
      exact subT
  · obtain rfl : a = la := by omega
    rw [shA_end] at q4
    rw [← q4, List.map_append]
    repeat' (first | refine stpPloW_1 ?_ | refine stp ?_ | (refine stq ?_ ?_ <;> intro _))
    refine ⟨by first | exact .inl rfl | exact .inr rfl, _, (.cons (.tmp 10 (A := .row _ _ _ _) rfl (fun _ h => by cases h)) .nil), ?_, rfl⟩
    rfl
end Go.Proofs.YtjmnnkhdadoehaaGreat
