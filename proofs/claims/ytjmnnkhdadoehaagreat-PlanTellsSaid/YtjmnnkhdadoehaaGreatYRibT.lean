/- rib.longest, Best, Tell. -/
import Derived.Test.YtjmnnkhdadoehaaGreatYMergeA
import Derived.Test.YtjmnnkhdadoehaaGreatYPlnR
namespace Go.Proofs.YtjmnnkhdadoehaaGreat
set_option linter.unusedSimpArgs false
set_option linter.unusedVariables false
open Go Go.RowKit Go.Shelf
section
variable {P : Program} {N : Nat} {K0 : Know} {w0 : Bas} {S : St} {d : Option Nat} {ty : TypeId} {pos : String} {aft : Array Edge} {g : Option (Nat × Bool)}
theorem OpH.callBT {f : FuncId} {fn : Func} {c : Code} {args : Array Operand} {ats : Array TypeId} {As : List AV} (vs : List Value) (hf : P.funcs[f]? = some fn) (hname : (fn.name == "runtime.NumGoroutine") = false) (hb : fn.body = some c)
    (hargs : (args.toList.map fun x => (S.opv x).argB S) = As) (hg : Good P f As (.tup (vs.map AV.val))) : OpH P N K0 w0 ⟨d, .call { callee := .value (.func f), args := args, argTypes := ats }, ty, pos, aft, g⟩ S (.tup (vs.map AV.val)) := by
  have hargs : ArgsB S args.toList As := by subst hargs; exact ArgsB.of_map _
  intro S' K n a w hs hB hop
  obtain ⟨hl, ha⟩ := hargs.get
  refine upon_enter_calls (call_run hf hname hb a w) (hg (K.boxed n S' w) w (args.toList.map a.eval) (Know.boxed_ok hs.ok) (by simp [hl]) fun i A c hA hc => ?_) ?_
  · rw [List.getElem?_map, Option.map_eq_some_iff] at hc
    obtain ⟨x, hx, rfl⟩ := hc
    have h1 := hs.opv x
    rw [hop x (by simp only [Op.operands, Call.operands]; simp; right; simpa using List.mem_of_getElem? hx)] at h1
    have h3 := (ha i A x hA hx).at (St.mem_boxes hB)
    exact h3.rep hs h1
  · rintro e w' ⟨c, K', rfl, h1, h2, h3, h4, ρ, h5, _⟩
    refine ⟨c, rfl, c, K, rfl, h1, Know.le_refl K, Know.below hs.ok h1, fun _ _ _ h _ => h, ?_, fun r e k xs hr => absurd hr no_row_tup⟩
    obtain ⟨cs, e1, e2, e3⟩ := h5
    refine ⟨cs, e1, e2, fun i v hv => ?_⟩
    have := e3 i v hv
    rw [List.getElem?_map, Option.map_eq_some_iff] at hv
    obtain ⟨u, _, rfl⟩ := hv
    exact this
end
def HoldR (Q : Rte → Prop) (h : Rte → Bool) (As : List AV) (res : AV) : Prop := ∃ r : Rte, Q r ∧ As = [.val (.agg #[.int .u64 r.p.a.x, .int .u64 r.p.a.y, .int .i64 r.p.len, .int .i64 r.act])] ∧ res = .val (.bool (h r))
def lgT (l : List Rte) (h : Rte → Bool) : Nat → Rte × Bool
  | 0 => (⟨⟨⟨0, 0⟩, 0⟩, 0⟩, false)
  | k + 1 => if h (nth l k) = true ∧ ((lgT l h k).2 = false ∨ (lgT l h k).1.p.len < (nth l k).p.len) then (nth l k, true) else lgT l h k
theorem lgT_spec (l : List Rte) (h : Rte → Bool) : ∀ k, k ≤ l.length → ((lgT l h k).2 = false ∧ (lgT l h k).1 = ⟨⟨⟨0, 0⟩, 0⟩, 0⟩ ∧ ∀ i, i < k → h (nth l i) = false) ∨ ((lgT l h k).2 = true ∧ (lgT l h k).1 ∈ l ∧ h (lgT l h k).1 = true ∧ ∀ i, i < k → h (nth l i) = true → (nth l i).p.len ≤ (lgT l h k).1.p.len)
  | 0, _ => .inl ⟨rfl, rfl, fun i hi => by omega⟩
  | k + 1, hk => by
    have ih := lgT_spec l h k (by omega)
    have hm : nth l k ∈ l := by rw [nth_at _ (by omega : k < l.length)]; exact List.getElem_mem _
    have hst : lgT l h (k + 1) = if h (nth l k) = true ∧ ((lgT l h k).2 = false ∨ (lgT l h k).1.p.len < (nth l k).p.len) then (nth l k, true) else lgT l h k := rfl
    rw [hst]
    generalize lgT l h k = q at ih
    by_cases c : h (nth l k) = true ∧ (q.2 = false ∨ q.1.p.len < (nth l k).p.len)
    · rw [if_pos c]
      refine .inr ⟨rfl, hm, c.1, fun i hi hh => ?_⟩
      dsimp only
      by_cases e : i = k
      · rw [e]; exact Int.le_refl _
      · rcases ih with ⟨h1, _, h2⟩ | ⟨h1, _, _, h2⟩
        · rw [h2 i (by omega)] at hh; cases hh
        · have := h2 i (by omega) hh
          rcases c.2 with c2 | c2
          · rw [h1] at c2; cases c2
          · omega
    · rw [if_neg c]
      rcases ih with ⟨h1, h0, h2⟩ | ⟨h1, h3, h4, h2⟩
      · refine .inl ⟨h1, h0, fun i hi => ?_⟩
        by_cases e : i = k
        · rw [e]
          cases hh : h (nth l k) with
          | false => rfl
          | true => exact absurd ⟨hh, .inl h1⟩ c
        · exact h2 i (by omega)
      · refine .inr ⟨h1, h3, h4, fun i hi hh => ?_⟩
        by_cases e : i = k
        · subst e
          exact Classical.byContradiction fun hc => c ⟨hh, .inr (by omega)⟩
        · exact h2 i (by omega) hh
theorem lgT_tell {l : List Rte} (ht : TableR l) (a : A2) : (lgT l (fun r => rpMatch r.p a) l.length).1.act = tellR l a := by
  rcases bestO_spec ht.canon a with ⟨e, hn⟩ | ⟨r, hr, e, hm, hb⟩ <;> rcases lgT_spec l (fun r => rpMatch r.p a) l.length (Nat.le_refl _) with ⟨h1, h0, h2⟩ | ⟨h1, h3, h4, h2⟩
  · unfold tellR; rw [h0, e]
  · rw [hn _ h3] at h4; cases h4
  · obtain ⟨k, hk, rfl⟩ := List.mem_iff_getElem.1 hr
    have := h2 k hk
    rw [nth_at _ hk, hm] at this; cases this
  · unfold tellR
    rw [e]
    dsimp only
    obtain ⟨k, hk, hke⟩ := List.mem_iff_getElem.1 hr
    have h5 := h2 k hk (by rw [nth_at _ hk, hke]; exact hm)
    rw [nth_at _ hk, hke] at h5
    have h6 := hb _ h3 h4
    generalize (lgT l (fun r => rpMatch r.p a) l.length).1 = s at h3 h4 h5 h6
    have hp : s.p = r.p := same_match (ht.canon s h3) (ht.canon r hr) (by omega) h4 hm
    have : s = r := Classical.byContradiction fun hne => by
      have hs := ht.sorted
      obtain ⟨i, hi, rfl⟩ := List.mem_iff_getElem.1 h3
      have hik : i ≠ k := fun q => by subst q; exact hne hke
      rw [List.pairwise_iff_getElem] at hs
      rcases Nat.lt_or_ge i k with c | c
      · have := hs i k hi hk c
        rw [hke, hp] at this
        exact this.ne rfl
      · have := hs k i hk hi (by omega)
        rw [hke, hp] at this
        exact this.ne rfl
    rw [this]
attribute [local irreducible] OpH OpT LT CT HT Good
theorem arm74_1 {p : Prop} (h : p := by first | exact fm0 | exact fm53 | exact fm43 | exact fm6 | exact fm38 | exact fm62 | exact fm56 | exact fm32 | exact fm23 | exact fm31 | exact fm22 | exact fm50 | exact fm3 | exact fm54 | exact fm55 | exact fm4 | fail) : p := h
theorem stpRibT_1 {G G' : Prop} (h' : G') (h : Hidd G' → G := by (first | (intro h; (first | (refine LT.consT ?_; (first | refine T.alloc (e := 67) (z := .agg #[.int .u64 0, .int .u64 0, .int .i64 0, .int .i64 0]) (cs := [.val (.int .u64 0), .val (.int .u64 0), .val (.int .i64 0), .val (.int .i64 0)]) (by kernel_rfl) rfl (by decide) rfl rfl ?_ | refine T.store (t := 67) rfl rfl rfl (by kernel_rfl) (by kernel_rfl) (Nat.le_of_ble_eq_true (by kernel_rfl)) rfl rfl ?_)) | ((first | apply LT.cons1 | (apply LT.guard1; rfl; rfl; rfl; decide)); exact arm74_1; (try decide))); exact h.1) | fail)) : G := h ⟨h'⟩
set_option maxRecDepth 100000 in
set_option maxHeartbeats 4000000 in
theorem g_longest (l : List Rte) (Q : Rte → Prop) (h : Rte → Bool) (hQ : ∀ r ∈ l, Q r) (hl : l.length ≤ 65536) : Good Tryz.prog 74 [.sl 4 (l.map encR), .pr (FnIs Tryz.prog (HoldR Q h))] (.tup ([.agg #[.int .u64 ((lgT l h l.length).1).p.a.x, .int .u64 ((lgT l h l.length).1).p.a.y, .int .i64 ((lgT l h l.length).1).p.len, .int .i64 ((lgT l h l.length).1).act], .bool (lgT l h l.length).2].map AV.val)) := by
  refine Good.of_body (T := [(0, _), (1, _)]) Tryz.func74 rfl rfl rfl ?_
  intro K0 w0 hno
  repeat' (first | refine stpRibT_1 ?_ | refine stp ?_ | (refine stq ?_ ?_ <;> intro _))
  refine CT.loopX (fun k : Nat => (⟨[(1, .pr (FnIs Tryz.prog (HoldR Q h))), (4, .ptr 4 0), (6, .ptr 6 0), (7, .val (.bool (lgT l h k).2)), (10, .sl 4 (l.map encR)), (11, .val (.int .i64 l.length)), (12, .val (.int .i64 k))], [(4, [.val (.int .u64 0), .val (.int .u64 0), .val (.int .i64 0), .val (.int .i64 0)]), (6, (encR (lgT l h k).1).map AV.val)], []⟩ : St))
    (fun k => k ≤ l.length) (fun k => l.length - k) 0 ?_ (by omega) ?_
  · rw [show lgT l h 0 = (⟨⟨⟨0, 0⟩, 0⟩, 0⟩, false) from rfl]
    exact subT
  rintro k hk
  by_cases hlt : k < l.length
  · have hst : lgT l h (k + 1) = if h (nth l k) = true ∧ ((lgT l h k).2 = false ∨ (lgT l h k).1.p.len < (nth l k).p.len) then (nth l k, true) else lgT l h k := rfl
    obtain ⟨r, hr⟩ : ∃ r, l[k] = r := ⟨_, rfl⟩
    have hat : (l.map encR)[k]? = some (encR r) := by rw [List.getElem?_map, List.getElem?_eq_getElem hlt, hr]; rfl
    have hq : Q r := by rw [← hr]; exact hQ _ (List.getElem_mem hlt)
    rw [nth_at _ hlt, hr] at hst
    obtain ⟨⟨b, is⟩, hbi⟩ : ∃ q, lgT l h k = q := ⟨_, rfl⟩
    rw [hbi] at hst ⊢
    dsimp only at hst ⊢
    cases hh : h r with
    | false =>
      rw [if_neg (fun c => by rw [hh] at c; cases c.1)] at hst
      repeat' (first | ((first | apply LT.cons1 | (apply LT.guard1; rfl; rfl; rfl; decide)); (first | exact OpH.indexS (t := 22) (k := 4) (j := k) rfl slP rfl rfl (by kernel_rfl) hat rfl | exact OpH.callP (res := .val (.bool false)) rfl rfl ⟨r, hq, rfl, by rw [hh]⟩ rfl); (try decide)) | refine stpRibT_1 ?_ | refine stp ?_ | (refine stq ?_ ?_ <;> intro _))
      refine ⟨k + 1, by omega, by omega, ?_⟩
      rw [hst]
      exact subT
    | true =>
      cases is with
      | false =>
        rw [if_pos ⟨hh, .inl rfl⟩] at hst
        repeat' (first | ((first | apply LT.cons1 | (apply LT.guard1; rfl; rfl; rfl; decide)); (first | exact OpH.indexS (t := 22) (k := 4) (j := k) rfl slP rfl rfl (by kernel_rfl) hat rfl | exact OpH.callP (res := .val (.bool true)) rfl rfl ⟨r, hq, rfl, by rw [hh]⟩ rfl); (try decide)) | refine stpRibT_1 ?_ | refine stp ?_ | (refine stq ?_ ?_ <;> intro _))
        refine ⟨k + 1, by omega, by omega, ?_⟩
        rw [hst]
        exact subT
      | true =>
        by_cases hlen : b.p.len < r.p.len
        · rw [if_pos ⟨hh, .inr hlen⟩] at hst
          repeat' (first | ((first | apply LT.cons1 | (apply LT.guard1; rfl; rfl; rfl; decide)); (first | exact OpH.indexS (t := 22) (k := 4) (j := k) rfl slP rfl rfl (by kernel_rfl) hat rfl | exact OpH.callP (res := .val (.bool true)) rfl rfl ⟨r, hq, rfl, by rw [hh]⟩ rfl); (try decide)) | refine stpRibT_1 ?_ | refine stp ?_ | (refine stq ?_ ?_ <;> intro _))
          refine ⟨k + 1, by omega, by omega, ?_⟩
          rw [hst]
          exact subT
        · rw [if_neg (fun c => by rcases c.2 with c | c; cases c; exact hlen c)] at hst
          repeat' (first | ((first | apply LT.cons1 | (apply LT.guard1; rfl; rfl; rfl; decide)); (first | exact OpH.indexS (t := 22) (k := 4) (j := k) rfl slP rfl rfl (by kernel_rfl) hat rfl | exact OpH.callP (res := .val (.bool true)) rfl rfl ⟨r, hq, rfl, by rw [hh]⟩ rfl); (try decide)) | refine stpRibT_1 ?_ | refine stp ?_ | (refine stq ?_ ?_ <;> intro _))
          refine ⟨k + 1, by omega, by omega, ?_⟩
          rw [hst]
          exact subT
  · obtain rfl : k = l.length := by omega
    obtain ⟨⟨b, is⟩, hbi⟩ : ∃ q, lgT l h l.length = q := ⟨_, rfl⟩
    rw [hbi]
    repeat' (first | refine stpRibT_1 ?_ | refine stp ?_ | (refine stq ?_ ?_ <;> intro _))
    refine ⟨by first | exact .inl rfl | exact .inr rfl, _, (.cons (.many 4 (vs := [_, _, _, _]) rfl rfl (by kernel_rfl) rfl rfl) (.cons (.tmp 5 (A := .val _) rfl (fun _ h => by cases h)) .nil)), ?_, rfl⟩
    rfl
theorem arm75_1 {p : Prop} (h : p := by first | exact fm0 | exact fm32 | exact fm23 | exact fm60 | exact fm58 | fail) : p := h
set_option maxRecDepth 100000 in
set_option maxHeartbeats 2000000 in
theorem g_Best1 (a : A2) (r : Rte) (ha : a.ok) (hr : r.p.a.ok) : Good Tryz.prog 75 [.val (.agg #[.int .u64 r.p.a.x, .int .u64 r.p.a.y, .int .i64 r.p.len, .int .i64 r.act]), .cptr [.int .u64 a.x, .int .u64 a.y]] (.val (.bool (rpMatch r.p a))) := by
  have gM := g_pMatch r.p a hr ha
  refine Good.of_body (T := [(0, _), (1, _)]) Tryz.func75 rfl rfl rfl ?_
  intro K0 w0 hno
  repeat' (first | (apply LT.cons1; (first | exact OpH.callF Tryz.func76 rfl rfl rfl gM rfl); (try decide)) | (refine LT.consT ?_; (first | refine T.box (e := 67) (cs := [.val _, .val _, .val _, .val _]) rfl rfl (by decide) rfl rfl ?_)) | (apply LT.cons1; exact arm75_1; (try decide)) | refine stp ?_ | (refine stq ?_ ?_ <;> intro _))
  refine ⟨by first | exact .inl rfl | exact .inr rfl, _, (.cons (.tmp 3 (A := .val _) rfl (fun _ h => by cases h)) .nil), ?_, rfl⟩
  rfl
theorem g_longestA (l : List Rte) (a : A2) (ha : a.ok) (hok : ∀ r ∈ l, r.p.a.ok) (hl : l.length ≤ 65536) : Good Tryz.prog 74 [.sl 4 (l.map encR), .clo 75 [[.int .u64 a.x, .int .u64 a.y]]] (.tup ([.agg #[.int .u64 ((lgT l (fun r => rpMatch r.p a) l.length).1).p.a.x, .int .u64 ((lgT l (fun r => rpMatch r.p a) l.length).1).p.a.y, .int .i64 ((lgT l (fun r => rpMatch r.p a) l.length).1).p.len, .int .i64 ((lgT l (fun r => rpMatch r.p a) l.length).1).act], .bool (lgT l (fun r => rpMatch r.p a) l.length).2].map AV.val)) :=
  (g_longest l (fun r => r.p.a.ok) (fun r => rpMatch r.p a) hok hl).args rfl fun i A A' K c hA hA' h => by
    match i with
    | 0 => injection hA with hA; injection hA' with hA'; subst hA hA'; exact h
    | 1 =>
      injection hA with hA; injection hA' with hA'; subst hA hA'
      exact fnIs_clo Tryz.func75 rfl rfl (fun As res ⟨y, e0, e1, e2⟩ => by subst e1 e2; exact g_Best1 a y ha e0) K h
    | i + 2 => simp at hA
theorem arm39_1 {p : Prop} (h : p := by first | exact fm0 | exact fm53 | exact OpH.mkfn | exact OpH.mkclo1 rfl | exact OpH.mkclo2 rfl rfl | exact fm15 | fail) : p := h
theorem arm11_1 {p : Prop} (h : p := by first | exact fm0 | exact fm53 | exact fm58 | exact fm15 | exact fm33 | exact fm24 | exact fm50 | fail) : p := h
set_option maxRecDepth 100000 in
set_option maxHeartbeats 2000000 in
theorem g_ribTell (l : List Rte) (a : A2) (ht : TableR l) (ha : a.ok) (hl : l.length ≤ 65536) : Good Tryz.prog 11 [.sl 4 (l.map encR), .val (.agg #[.int .u64 a.x, .int .u64 a.y])] (.val (.int .i64 (tellR l a))) := by
  have gL := g_longestA l a ha (fun r hr => (ht.canon r hr).ok) hl
  rw [← lgT_tell ht a]
  obtain ⟨⟨b, is⟩, hbi⟩ : ∃ q, lgT l (fun r => rpMatch r.p a) l.length = q := ⟨_, rfl⟩
  rw [hbi] at gL ⊢
  have gB : Good Tryz.prog 39 [.sl 4 (l.map encR), .val (.agg #[.int .u64 a.x, .int .u64 a.y])] (.tup [.val (.agg #[.int .u64 b.p.a.x, .int .u64 b.p.a.y, .int .i64 b.p.len, .int .i64 b.act]), .val (.bool is)]) := by
    refine Good.of_body (T := [(0, _), (1, _)]) Tryz.func39 rfl rfl rfl ?_
    intro K0 w0 hno
    repeat' (first | (apply LT.cons1; (first | exact OpH.callBT _ Tryz.func74 rfl rfl rfl gL); (try decide)) | (refine LT.consT ?_; (first | refine T.box (e := 25) (cs := [.val _, .val _]) rfl rfl (by decide) rfl rfl ?_ | refine T.alloc (e := 67) (z := .agg #[.int .u64 0, .int .u64 0, .int .i64 0, .int .i64 0]) (cs := [.val (.int .u64 0), .val (.int .u64 0), .val (.int .i64 0), .val (.int .i64 0)]) (by kernel_rfl) rfl (by decide) rfl rfl ?_ | refine T.store (t := 67) rfl rfl rfl (by kernel_rfl) (by kernel_rfl) (Nat.le_of_ble_eq_true (by kernel_rfl)) rfl rfl ?_)) | (apply LT.cons1; exact arm39_1; (try decide)) | refine stp ?_ | (refine stq ?_ ?_ <;> intro _))
    refine ⟨by first | exact .inl rfl | exact .inr rfl, _, (.cons (.many 4 (vs := [_, _, _, _]) rfl rfl (by kernel_rfl) rfl rfl) (.cons (.tmp 5 (A := .val _) rfl (fun _ h => by cases h)) .nil)), ?_, rfl⟩
    rfl
  refine Good.of_body (T := [(0, _), (1, _)]) Tryz.func11 rfl rfl rfl ?_
  intro K0 w0 hno
  repeat' (first | (apply LT.cons1; (first | exact OpH.callF Tryz.func39 rfl rfl rfl gB rfl); (try decide)) | (refine LT.consT ?_; (first | refine T.box (e := 25) (cs := [.val _, .val _]) rfl rfl (by decide) rfl rfl ?_ | refine T.alloc (e := 67) (z := .agg #[.int .u64 0, .int .u64 0, .int .i64 0, .int .i64 0]) (cs := [.val (.int .u64 0), .val (.int .u64 0), .val (.int .i64 0), .val (.int .i64 0)]) (by kernel_rfl) rfl (by decide) rfl rfl ?_ | refine T.store (t := 67) rfl rfl rfl (by kernel_rfl) (by kernel_rfl) (Nat.le_of_ble_eq_true (by kernel_rfl)) rfl rfl ?_)) | (apply LT.cons1; exact arm11_1; (try decide)) | refine stp ?_ | (refine stq ?_ ?_ <;> intro _))
  refine ⟨by first | exact .inl rfl | exact .inr rfl, _, (.cons (.tmp 4 (A := .val _) rfl (fun _ h => by cases h)) .nil), ?_, rfl⟩
  rfl
end Go.Proofs.YtjmnnkhdadoehaaGreat
