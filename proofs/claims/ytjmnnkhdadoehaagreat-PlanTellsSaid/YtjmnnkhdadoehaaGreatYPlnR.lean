/- ref14: Kept, One; law14.steps. -/
import Derived.Test.YtjmnnkhdadoehaaGreatYPlnA
import Derived.Test.YtjmnnkhdadoehaaGreatYMergeF
import Derived.Test.YtjmnnkhdadoehaaGreatYLawTells
import Derived.Test.YtjmnnkhdadoehaaGreatYCaoQ
import Derived.Test.YtjmnnkhdadoehaaGreatYOpen
namespace Go.Proofs.YtjmnnkhdadoehaaGreat
set_option linter.unusedSimpArgs false
set_option linter.unusedVariables false
open Go Go.RowKit Go.Shelf
attribute [local irreducible] OpH OpT LT CT HT Good
end Go.Proofs.YtjmnnkhdadoehaaGreat

/- plan.Twins, ref14.Twins. -/
namespace Go.Proofs.YtjmnnkhdadoehaaGreat
set_option linter.unusedSimpArgs false
set_option linter.unusedVariables false
open Go Go.RowKit Go.Shelf
section
variable {P : Program} {N : Nat} {K0 : Know} {w0 : Bas} {S : St} {d : Option Nat} {ty : TypeId} {pos : String} {aft : Array Edge} {g : Option (Nat × Bool)} {t : TypeId} {x y z : Operand}
theorem run_sub3 {k : Nat} (hk : elemSize P t = some k) {xs : Cells} {A : Option Addr} {cap : Nat} (h0 : xs.length ≤ cap) {h : Nat} {kk k2 : IntKind} (hh : h ≤ xs.length) (w : World) :
    (Instr.sliceAt t (.slice A xs.length cap) none (some (.int kk (h : Int))) (some (.int k2 (h : Int)))).run P w = .ok (.slice (if h = 0 then A else A.map (·.add (0 * k))) h h) w := by
  obtain ⟨e, ie, hu, hie, hks⟩ := elemSize_spec hk
  have e1 : (Instr.sliceBounds true xs.length cap none (some (.int kk (h : Int))) (some (.int k2 (h : Int)))).run P w = .ok (0, h, h) w := by
    simp [Instr.sliceBounds, Instr.sliceBound, asIntOf, show h ≤ cap by omega]
  have e2 : (Instr.sliceAt t (.slice A xs.length cap) none (some (.int kk (h : Int))) (some (.int k2 (h : Int)))).run P w = (Instr.slice t (.slice A xs.length cap) none (some (.int kk (h : Int))) (some (.int k2 (h : Int)))).run P w := by
    unfold Instr.sliceAt
    rw [Sem.run_bind, run_underlying hu]
    rfl
  rw [e2]
  unfold Instr.slice
  rw [Sem.run_bind, run_underlying hu]
  simp only [Result.andThen_ok]
  rw [Sem.run_bind, e1]
  simp [sizeOf, typeInfo, hie, hks]
theorem OpH.subMax {α : Type} {enc : α → List Value} {A : AV} {k h : Nat} {xs : List α} {kk k2 : IntKind} {i j : Int} (h1 : S.opv x = A) (hA : A.Sl k (xs.map enc)) (hk : elemSize P t = some k) (h2 : S.opv y = .val (.int kk i)) (hi : i = (h : Int)) (h3 : S.opv z = .val (.int k2 j)) (hj : j = (h : Int)) (hh : h ≤ xs.length) :
    OpH P N K0 w0 ⟨d, .slice t x none (some y) (some z), ty, pos, aft, g⟩ S (.sl k ((xs.take h).map enc)) := by
  subst hi hj
  refine OpH.ret (fun S' K n a w hs _ hop => ?_) (no_row (by intros; intro h; cases h) (by intros; intro h; cases h))
  have e1 := hs.opv x
  rw [hop x (by simp [Op.operands]), h1] at e1
  obtain ⟨A', cap, e3, h3', h4, hr⟩ := hA.slice e1
  have f1 := hs.opv y
  rw [hop y (by simp [Op.operands]), h2] at f1
  have f2 := hs.opv z
  rw [hop z (by simp [Op.operands]), h3] at f2
  have hl : ((xs.take h).map enc).length = h := by simp; omega
  refine ⟨.slice (if h = 0 then A' else A'.map (·.add (0 * k))) h h, ?_, ⟨_, h, by rw [hl], by rw [hl]; exact Nat.le_refl _, fun hn => ?_, ?_⟩⟩
  · simp only [execOp]
    rw [e3, Sem.run_bind, Option.map_none, Option.map_some, Option.map_some, show a.eval y = _ from f1, show a.eval z = _ from f2, run_sub3 hk h3' (by rw [List.length_map]; exact hh)]
    rfl
  · split at hn
    · assumption
    · cases A' with
      | none =>
        have := hr.none_nil
        rw [List.map_eq_nil_iff] at this
        subst this
        simpa using hh
      | some a => cases hn
  · rw [List.map_take]
    split
    · rename_i hz
      rw [hz, List.take_zero]
      exact Rd.nil_
    · have := hr.part 0 h
      rwa [List.drop_zero] at this
end
def twinAt (l : List Slt) (k j : Nat) : Bool := (nth l k).valid && (nth l j).valid && eAlike (nth l k).e (nth l j).e
def hasTwin (l : List Slt) (k : Nat) : Bool := (List.range k).any (twinAt l k)
theorem hasTwin_t {l : List Slt} {k j : Nat} (h : j < k) (ht : twinAt l k j = true) : hasTwin l k = true := List.any_eq_true.2 ⟨j, List.mem_range.2 h, ht⟩
theorem hasTwin_f {l : List Slt} {k : Nat} (h : ∀ j, j < k → twinAt l k j = false) : hasTwin l k = false := by
  cases e : hasTwin l k with
  | false => rfl
  | true =>
    obtain ⟨j, hj, ht⟩ := List.any_eq_true.1 e
    rw [h j (List.mem_range.1 hj)] at ht; cases ht
def twinsT (l : List Slt) : Nat → List Wrt
  | 0 => []
  | k + 1 => twinsT l k ++ (if hasTwin l k = true then [⟨k, zeroS⟩] else [])
theorem twinsT_len (l : List Slt) : ∀ k, (twinsT l k).length ≤ k
  | 0 => Nat.le_refl _
  | k + 1 => by
    have := twinsT_len l k
    simp only [twinsT, List.length_append]
    split
    · rw [List.length_singleton]; omega
    · rw [List.length_nil]; omega
def twinsL (l : List Slt) : List Wrt := twinsT l l.length
attribute [local irreducible] OpH OpT LT CT HT Good
theorem arm32_1 {p : Prop} (h : p := by first | exact fm0 | exact fm53 | exact fm45 | exact fm6 | exact fm40 | exact fm65 | exact OpH.subHi (t := 30) (k := 7) rfl slP (by kernel_rfl) rfl rfl bd | exact fm27 | exact fm18 | exact fm52 | exact fm54 | exact fm55 | exact fm28 | exact fm19 | exact fm63 | exact fm13 | exact build_50_0 rfl | exact fm11 | exact lit_37_1 rfl | exact fm4 | fail) : p := h
theorem stpPlnT_1 {G G' : Prop} (h' : G') (h : Hidd G' → G := by (first | (intro h; (first | (refine LT.consT ?_; (first | refine T.alloc (e := 48) (z := .agg #[.bool false, .int .u64 0, .int .u64 0, .int .u64 0, .int .u64 0, .int .i64 0, .int .i64 0]) (cs := [.val (.bool false), .val (.int .u64 0), .val (.int .u64 0), .val (.int .u64 0), .val (.int .u64 0), .val (.int .i64 0), .val (.int .i64 0)]) (by kernel_rfl) rfl (by decide) rfl rfl ?_ | refine T.store (t := 48) rfl rfl rfl (by kernel_rfl) (by kernel_rfl) (Nat.le_of_ble_eq_true (by kernel_rfl)) rfl rfl ?_ | refine T.appNil (t := 37) (e := 50) (k := 8) (bytes := 64) rfl rfl srP (by kernel_rfl) szP (by decide) rfl ?_ | refine T.app (t := 37) (e := 50) (k := 8) (bytes := 64) rfl rfl srP (by kernel_rfl) szP (by decide) rfl rfl ?_)) | ((first | apply LT.cons1 | (apply LT.guard1; rfl; rfl; rfl; decide)); exact arm32_1; (try decide))); exact h.1) | fail)) : G := h ⟨h'⟩
set_option maxRecDepth 100000 in
set_option maxHeartbeats 4000000 in
theorem g_Twins (l : List Slt) (hl : l.length ≤ 60000) : Good Tryz.prog 32 [.sl 7 (l.map encS)] (.row 3 50 8 ((twinsL l).map encX)) := by
  unfold twinsL
  refine Good.of_body (T := [(0, _)]) Tryz.func32 rfl rfl rfl ?_
  intro K0 w0 hno
  repeat' (first | refine stpPlnT_1 ?_ | refine stp ?_ | (refine stq ?_ ?_ <;> intro _))
  refine CT.loopX (fun k : Nat => (⟨[(0, .sl 7 (l.map encS)), (3, .row 3 50 8 ((twinsT l k).map encX)), (8, .sl 7 (l.map encS)), (9, .val (.int .i64 l.length)), (10, .val (.int .i64 k))], [], []⟩ : St))
    (fun k => k ≤ l.length) (fun k => l.length - k) 0 ?_ (by omega) ?_
  · rw [show twinsT l 0 = [] from rfl]
    exact subT
  rintro k hk
  by_cases hlt : k < l.length
  · have hel := twinsT_len l k
    have hst : twinsT l (k + 1) = twinsT l k ++ (if hasTwin l k = true then [⟨k, zeroS⟩] else []) := rfl
    generalize twinsT l k = ws at hst hel ⊢
    obtain ⟨⟨v, e⟩, hs⟩ : ∃ s, l[k] = s := ⟨_, rfl⟩
    have hat := slot_at hlt hs
    have hn := nth_is hlt hs
    have htl : (l.take k).length = k := by rw [List.length_take]; omega
    repeat' (first | ((first | apply LT.cons1 | (apply LT.guard1; rfl; rfl; rfl; decide)); (first | exact OpH.indexS (t := 30) (k := 7) (j := k) rfl slP rfl rfl (by kernel_rfl) hat rfl | exact OpH.subMax (t := 30) (k := 7) (h := k) rfl slP (by kernel_rfl) rfl rfl rfl rfl (by omega)); (try decide)) | refine stpPlnT_1 ?_ | refine stp ?_ | (refine stq ?_ ?_ <;> intro _))
    refine CT.loopX (fun j : Nat => (⟨[(0, .sl 7 (l.map encS)), (3, .row 3 50 8 (ws.map encX)), (4, .val (.int .i64 k)), (5, .ptr 5 0), (8, .sl 7 (l.map encS)), (9, .val (.int .i64 l.length)), (10, .val (.int .i64 k)), (18, .sl 7 ((l.take k).map encS)), (19, .val (.int .i64 (l.take k).length)), (20, .val (.int .i64 j))], [(5, (encS ⟨v, e⟩).map AV.val)], []⟩ : St))
      (fun j => j ≤ k ∧ ∀ i, i < j → twinAt l k i = false) (fun j => k - j) 0 ?_ ⟨by omega, fun i h => by omega⟩ ?_
    · exact subT
    rintro j ⟨hj, hc⟩
    by_cases hjk : j < k
    · have hjl : j < l.length := by omega
      obtain ⟨⟨v2, e2⟩, hs2⟩ : ∃ s, l[j] = s := ⟨_, rfl⟩
      have hat2 : ((l.take k).map encS)[j]? = some (encS ⟨v2, e2⟩) := by rw [List.map_take, List.getElem?_take, if_pos hjk]; exact slot_at hjl hs2
      have hn2 := nth_is hjl hs2
      have htw : twinAt l k j = (v && v2 && eAlike e e2) := by unfold twinAt; rw [hn, hn2]
      have gA : Good Tryz.prog 65 [.val (.agg #[.int .u64 e.w.v.x, .int .u64 e.w.v.y, .int .u64 e.w.m.x, .int .u64 e.w.m.y, .int .i64 e.len, .int .i64 e.act]), .val (.agg #[.int .u64 e2.w.v.x, .int .u64 e2.w.v.y, .int .u64 e2.w.m.x, .int .u64 e2.w.m.y, .int .i64 e2.len, .int .i64 e2.act])] (.val (.bool (eAlike e e2))) := g_Alike _ _ _ _ _ _ _ _ _ _ _ _
      generalize eAlike e e2 = al at gA htw
      have hcase : (v = true ∧ v2 = true ∧ al = true) ∨ v = false ∨ (v = true ∧ v2 = false) ∨ (v = true ∧ v2 = true ∧ al = false) := by cases v <;> cases v2 <;> cases al <;> simp
      rcases hcase with ⟨rfl, rfl, rfl⟩ | hno2
      · rw [if_pos (hasTwin_t hjk htw)] at hst
        repeat' (first | ((first | apply LT.cons1 | (apply LT.guard1; rfl; rfl; rfl; decide)); (first | exact OpH.indexS (t := 30) (k := 7) (j := j) rfl slP rfl rfl (by kernel_rfl) hat2 rfl | exact OpH.callF Tryz.func65 rfl rfl rfl gA rfl); (try decide)) | refine stpPlnT_1 ?_ | refine stp ?_ | (refine stq ?_ ?_ <;> intro _))
        refine ⟨k + 1, by omega, by omega, ?_⟩
        rw [hst]
        exact subT
      · have hc2 : ∀ i, i < j + 1 → twinAt l k i = false := fun i hi => by
          by_cases ei : i = j
          · subst ei
            rw [htw]
            rcases hno2 with h | ⟨_, h⟩ | ⟨_, _, h⟩ <;> rw [h] <;> simp
          · exact hc i (by omega)
        rcases hno2 with rfl | ⟨rfl, rfl⟩ | ⟨rfl, rfl, rfl⟩
        all_goals
          repeat' (first | ((first | apply LT.cons1 | (apply LT.guard1; rfl; rfl; rfl; decide)); (first | exact OpH.indexS (t := 30) (k := 7) (j := j) rfl slP rfl rfl (by kernel_rfl) hat2 rfl | exact OpH.callF Tryz.func65 rfl rfl rfl gA rfl); (try decide)) | refine stpPlnT_1 ?_ | refine stp ?_ | (refine stq ?_ ?_ <;> intro _))
          refine ⟨j + 1, ⟨by omega, hc2⟩, by omega, ?_⟩
          exact subT
    · obtain rfl : j = k := by omega
      rw [if_neg (by rw [hasTwin_f hc]; decide), List.append_nil] at hst
      repeat' (first | refine stpPlnT_1 ?_ | refine stp ?_ | (refine stq ?_ ?_ <;> intro _))
      refine ⟨j + 1, by omega, by omega, ?_⟩
      rw [hst]
      exact subT
  · obtain rfl : k = l.length := by omega
    repeat' (first | refine stpPlnT_1 ?_ | refine stp ?_ | (refine stq ?_ ?_ <;> intro _))
    refine ⟨by first | exact .inl rfl | exact .inr rfl, _, (.cons (.tmp 2 (A := .row _ _ _ _) rfl (fun _ h => by cases h)) .nil), ?_, rfl⟩
    rfl
end Go.Proofs.YtjmnnkhdadoehaaGreat

/- Slots behind writes; what they tell; twins: in plain Lean. -/
namespace Go.Proofs.YtjmnnkhdadoehaaGreat
set_option linter.unusedSimpArgs false
set_option linter.unusedVariables false
open Go
def mayW (w : Wrt) (n : Nat) : Bool := decide (0 ≤ w.at_) && decide (w.at_ < n) && (decide (w.s = zeroS) || (w.s.valid && eRight w.s.e))
def app1 (l : List Slt) (w : Wrt) : List Slt := if mayW w l.length = true then l.set w.at_.toNat w.s else l
def applyW (l : List Slt) (ws : List Wrt) : List Slt := ws.foldl app1 l
theorem app1_len (l : List Slt) (w : Wrt) : (app1 l w).length = l.length := by
  unfold app1
  split
  · rw [List.length_set]
  · rfl
theorem applyW_len : ∀ (ws : List Wrt) (l : List Slt), (applyW l ws).length = l.length
  | [], _ => rfl
  | w :: ws, l => by
    show (applyW (app1 l w) ws).length = l.length
    rw [applyW_len ws, app1_len]
theorem applyW_take {l : List Slt} {ws : List Wrt} {k : Nat} (h : k < ws.length) : applyW l (ws.take (k + 1)) = app1 (applyW l (ws.take k)) ws[k] := by
  unfold applyW
  rw [List.take_succ_eq_append_getElem h, List.foldl_append]
  rfl
theorem applyW_app (l : List Slt) (xs ys : List Wrt) : applyW l (xs ++ ys) = applyW (applyW l xs) ys := by
  unfold applyW
  rw [List.foldl_append]
theorem nth_setS {l : List Slt} {i k : Nat} {s : Slt} (hi : i < l.length) : nth (l.set i s) k = if k = i then s else nth l k := by
  unfold nth
  rw [List.getD_eq_getElem?_getD, List.getElem?_set, List.getD_eq_getElem?_getD]
  by_cases e : k = i
  · subst e; rw [if_pos rfl, if_pos rfl, if_pos hi]; rfl
  · rw [if_neg (fun h => e h.symm), if_neg e]
def eachC (l : List Slt) (x : Ent) (h : Ent → Bool) (i : Nat) : Bool := (nth l i).valid && eAlike (nth l i).e x && h (nth l i).e
theorem eachC_iff {l : List Slt} {x : Ent} {h : Ent → Bool} {i : Nat} : ((nth l i).valid = true ∧ eAlike (nth l i).e x = true ∧ h (nth l i).e = true) ↔ eachC l x h i = true := by
  unfold eachC
  rw [Bool.and_eq_true, Bool.and_eq_true, and_assoc]
theorem apply_each {l : List Slt} {x : Ent} {to : Slt} {h : Ent → Bool} (hto : to = zeroS ∨ (to.valid = true ∧ eRight to.e = true)) : ∀ k, k ≤ l.length → ∀ i, nth (applyW l (eachT l x to h k)) i = if i < k ∧ eachC l x h i = true then to else nth l i
  | 0, _, i => by
    rw [if_neg (by omega)]; rfl
  | k + 1, hk, i => by
    have ih := apply_each (l := l) hto k (by omega) (x := x) (h := h)
    simp only [eachT]
    rw [applyW_app]
    have hlen := applyW_len (eachT l x to h k) l
    by_cases c : eachC l x h k = true
    · rw [if_pos (eachC_iff.2 c)]
      show nth (app1 _ _) i = _
      unfold app1
      rw [if_pos (by
        unfold mayW
        rw [Bool.and_eq_true, Bool.and_eq_true]
        refine ⟨⟨decide_eq_true (by dsimp only; omega), decide_eq_true (by dsimp only; omega)⟩, ?_⟩
        rw [Bool.or_eq_true, Bool.and_eq_true]
        rcases hto with h | h
        · exact .inl (decide_eq_true h)
        · exact .inr h), Int.toNat_natCast, nth_setS (l := applyW l (eachT l x to h k)) (by omega)]
      by_cases e : i = k
      · subst e; rw [if_pos rfl, if_pos ⟨by omega, c⟩]
      · rw [if_neg e, ih i]
        by_cases c2 : i < k ∧ eachC l x h i = true
        · rw [if_pos c2, if_pos ⟨by omega, c2.2⟩]
        · rw [if_neg c2, if_neg (fun q => c2 ⟨by omega, q.2⟩)]
    · rw [if_neg (fun q => c (eachC_iff.1 q))]
      show nth (applyW l (eachT l x to h k)) i = _
      rw [ih i]
      by_cases c2 : i < k ∧ eachC l x h i = true
      · rw [if_pos c2, if_pos ⟨by omega, c2.2⟩]
      · rw [if_neg c2, if_neg (fun q => c2 ⟨by
          by_cases e : i = k
          · subst e; exact absurd q.2 c
          · omega, q.2⟩)]
/-! ### What slots tell -/
def idxS (xs : List Slt) (h : Slt → Bool) : Int := if firstF (fun i => h (nth xs i)) xs.length 0 < xs.length then (firstF (fun i => h (nth xs i)) xs.length 0 : Int) else -1
def hitS (a : A2) (s : Slt) : Bool := s.valid && wMatch s.e.w a
def tellS (l : List Slt) (a : A2) : Int := if idxS l (hitS a) < 0 then 0 else (nth l (idxS l (hitS a)).toNat).e.act
theorem idxS_none {xs : List Slt} {h : Slt → Bool} (hn : ∀ k, k < xs.length → h (nth xs k) = false) : idxS xs h = -1 := by
  obtain ⟨h1, h2, h3, h4⟩ := firstF_spec (fun i => h (nth xs i)) xs.length 0
  unfold idxS
  rw [if_neg]
  intro hc
  have := h4 (by omega)
  rw [hn _ hc] at this
  cases this
theorem idxS_at {xs : List Slt} {h : Slt → Bool} {k : Nat} (hk : k < xs.length) (h1 : h (nth xs k) = true) (h2 : ∀ j, j < k → h (nth xs j) = false) : idxS xs h = k := by
  have := firstF_uniq (p := fun i => h (nth xs i)) (f := xs.length) (k := 0) (r := k) (by omega) (by omega) (fun j _ hj => h2 j hj) (fun _ => h1)
  unfold idxS
  rw [this, if_pos hk]
theorem idxS_cases (xs : List Slt) (h : Slt → Bool) : (idxS xs h = -1 ∧ ∀ k, k < xs.length → h (nth xs k) = false) ∨ ∃ k, k < xs.length ∧ idxS xs h = (k : Nat) ∧ h (nth xs k) = true ∧ ∀ j, j < k → h (nth xs j) = false := by
  obtain ⟨h1, h2, h3, h4⟩ := firstF_spec (fun i => h (nth xs i)) xs.length 0
  by_cases c : firstF (fun i => h (nth xs i)) xs.length 0 < xs.length
  · refine .inr ⟨_, c, ?_, h4 (by omega), fun j hj => h3 j (Nat.zero_le _) hj⟩
    unfold idxS; rw [if_pos c]
  · refine .inl ⟨?_, fun k hk => h3 k (Nat.zero_le _) (by omega)⟩
    unfold idxS; rw [if_neg c]
/-! ### Twins -/
theorem alike_w {x y : Ent} (h : eAlike x y = true) : x.w = y.w ∧ x.len = y.len := by
  unfold eAlike same at h
  rw [Bool.and_eq_true, decide_eq_true_eq, beq_iff_eq] at h
  exact h
end Go.Proofs.YtjmnnkhdadoehaaGreat

/- To have an entry stand along a way: behind each write the order is kept, and nothing is lost; in plain Lean. -/
namespace Go.Proofs.YtjmnnkhdadoehaaGreat
set_option linter.unusedSimpArgs false
set_option linter.unusedVariables false
open Go
/-! ### Entries behind one write -/
theorem entsS_split {l : List Slt} {k : Nat} (hk : k < l.length) (s : Slt) : (entsS (l.set k s)).Perm ((if s.valid = true then [s.e] else []) ++ entsS (l.eraseIdx k)) := by
  have e1 : l.set k s = l.take k ++ s :: l.drop (k + 1) := List.set_eq_take_append_cons_drop.trans (if_pos hk)
  have e2 : l.eraseIdx k = l.take k ++ l.drop (k + 1) := List.eraseIdx_eq_take_drop_succ l k
  rw [e1, e2]
  unfold entsS
  rw [List.filter_append, List.map_append, List.filter_append, List.map_append]
  by_cases c : s.valid = true
  · rw [if_pos c, List.filter_cons_of_pos c, List.map_cons]
    exact List.perm_middle
  · rw [if_neg c, List.filter_cons_of_neg c]
    exact List.Perm.refl _
theorem entsS_erase {l : List Slt} {k : Nat} (hk : k < l.length) : (entsS l).Perm ((if (nth l k).valid = true then [(nth l k).e] else []) ++ entsS (l.eraseIdx k)) := by
  have h := entsS_split hk (nth l k)
  have e : l.set k (nth l k) = l := by
    rw [nth_at _ hk]
    exact List.set_getElem_self hk
  rwa [e] at h
theorem entsS_new {l : List Slt} {k : Nat} (hk : k < l.length) (hv : (nth l k).valid = false) (x : Ent) : (entsS (l.set k ⟨true, x⟩)).Perm (x :: entsS l) := by
  have h1 := entsS_split hk ⟨true, x⟩
  have h2 := entsS_erase hk
  rw [if_neg (by rw [hv]; decide), List.nil_append] at h2
  rw [if_pos rfl] at h1
  exact h1.trans (h2.symm.cons x)
theorem entsS_over {l : List Slt} {k : Nat} (hk : k < l.length) (hv : (nth l k).valid = true) (x : Ent) : ((nth l k).e :: entsS (l.set k ⟨true, x⟩)).Perm (x :: entsS l) := by
  have h1 := entsS_split hk ⟨true, x⟩
  have h2 := entsS_erase hk
  rw [if_pos hv] at h2
  rw [if_pos rfl] at h1
  refine (h1.cons _).trans (List.Perm.trans ?_ (h2.symm.cons x))
  exact List.Perm.swap _ _ _
theorem mem_entsS_iff {l : List Slt} {e : Ent} : e ∈ entsS l ↔ ∃ k, k < l.length ∧ (nth l k).valid = true ∧ (nth l k).e = e := by
  constructor
  · intro h
    unfold entsS at h
    obtain ⟨s, hs, rfl⟩ := List.mem_map.1 h
    obtain ⟨hm, hv⟩ := List.mem_filter.1 hs
    obtain ⟨k, hk, rfl⟩ := List.mem_iff_getElem.1 hm
    exact ⟨k, hk, by rw [nth_at _ hk]; exact hv, by rw [nth_at _ hk]⟩
  · rintro ⟨k, hk, hv, rfl⟩
    exact mem_entsS hk hv
/-! ### Ways, downwards or upwards -/
structure Dir (lt : Nat → Nat → Prop) : Prop where
  irr : ∀ i, ¬ lt i i
  tr : ∀ i j k, lt i j → lt j k → lt i k
  tri : ∀ i j, lt i j ∨ i = j ∨ lt j i
theorem dir_down : Dir fun i j => i < j := ⟨fun i => Nat.lt_irrefl i, fun i j k => Nat.lt_trans, fun i j => Nat.lt_trichotomy i j⟩
theorem dir_up : Dir fun i j => j < i := ⟨fun i => Nat.lt_irrefl i, fun i j k h1 h2 => Nat.lt_trans h2 h1, fun i j => by
  rcases Nat.lt_trichotomy i j with h | h | h
  · exact .inr (.inr h)
  · exact .inr (.inl h)
  · exact .inl h⟩
section
variable (lt : Nat → Nat → Prop) (A : Ent → Ent → Bool)
def KeptG (s : List Slt) : Prop := ∀ i j, i < s.length → j < s.length → lt i j → (nth s i).valid = true → (nth s j).valid = true → A (nth s j).e (nth s i).e = false
def WayOK (s : List Slt) : List Nat → Prop
  | [] => False
  | [p] => p < s.length ∧ (nth s p).valid = false
  | p :: q :: w => p < s.length ∧ (nth s p).valid = true ∧ lt p q ∧ (∀ j, j < s.length → lt p j → lt j q → (nth s j).valid = true → A (nth s p).e (nth s j).e = false) ∧ WayOK s (q :: w)
def Fits (s : List Slt) (p : Nat) (x : Ent) : Prop :=
  (∀ j, j < s.length → lt j p → (nth s j).valid = true → A x (nth s j).e = false) ∧ ∀ j, j < s.length → ¬ lt j p → (nth s j).valid = true → A (nth s j).e x = false
end
def wayWrites (s : List Slt) (x : Ent) : List Nat → List Wrt
  | [] => []
  | [p] => [⟨p, ⟨true, x⟩⟩]
  | p :: q :: w => wayWrites s (nth s p).e (q :: w) ++ [⟨p, ⟨true, x⟩⟩]
def RightS (s : List Slt) : Prop := ∀ k, k < s.length → (nth s k).valid = true → eRight (nth s k).e = true
theorem app1_put {l : List Slt} {k : Nat} (hk : k < l.length) {x : Ent} (hr : eRight x = true) : app1 l ⟨k, ⟨true, x⟩⟩ = l.set k ⟨true, x⟩ := by
  unfold app1
  rw [if_pos, Int.toNat_natCast]
  unfold mayW
  dsimp only
  rw [decide_eq_true (by omega), decide_eq_true (by omega), hr]
  simp
section
variable {lt : Nat → Nat → Prop} {A : Ent → Ent → Bool}
theorem kept_put {t : List Slt} {p : Nat} {x : Ent} (hp : p < t.length) (hD : Dir lt) (hk : KeptG lt A t) (h1 : ∀ j, j < t.length → lt j p → (nth t j).valid = true → A x (nth t j).e = false) (h2 : ∀ j, j < t.length → lt p j → (nth t j).valid = true → A (nth t j).e x = false) : KeptG lt A (t.set p ⟨true, x⟩) := by
  intro i j hi hj hij hv hw
  rw [List.length_set] at hi hj
  rw [nth_setS hp] at hv hw ⊢
  rw [nth_setS hp]
  by_cases ei : i = p
  · by_cases ej : j = p
    · exact absurd (ei ▸ ej ▸ hij) (by subst ei; subst ej; exact hD.irr _)
    · rw [if_pos ei]
      rw [if_neg ej] at hw ⊢
      exact h2 j hj (ei ▸ hij) hw
  · rw [if_neg ei] at hv ⊢
    by_cases ej : j = p
    · rw [if_pos ej]
      exact h1 i hi (ej ▸ hij) hv
    · rw [if_neg ej] at hw ⊢
      exact hk i j hi hj hij hv hw
structure WayGood (lt : Nat → Nat → Prop) (A : Ent → Ent → Bool) (s : List Slt) (p : Nat) (x : Ent) (W : List Wrt) : Prop where
  pre : ∀ m, m < W.length → KeptG lt A (applyW s (W.take m)) ∧ ∀ e, e ∈ entsS (applyW s (W.take m)) ↔ e ∈ entsS s
  kept : KeptG lt A (applyW s W)
  perm : (entsS (applyW s W)).Perm (x :: entsS s)
  ahead : ∀ j, lt j p → nth (applyW s W) j = nth s j
  src : ∀ j, j < s.length → ¬ lt j p → (nth (applyW s W) j).valid = true → (nth (applyW s W) j).e = x ∨ ∃ q, q < s.length ∧ ¬ lt q p ∧ (nth s q).valid = true ∧ (nth (applyW s W) j).e = (nth s q).e
theorem way_good (hD : Dir lt) (hA : ∀ e, A e e = false) {s : List Slt} (hk : KeptG lt A s) (hr : RightS s) : ∀ (w : List Nat) (p : Nat) (x : Ent), eRight x = true → WayOK lt A s (p :: w) → Fits lt A s p x → WayGood lt A s p x (wayWrites s x (p :: w))
  | [], p, x, hx, ⟨hp, hv⟩, hf => by
    have e : applyW s (wayWrites s x [p]) = s.set p ⟨true, x⟩ := app1_put hp hx
    refine ⟨fun m hm => ?_, ?_, ?_, fun j hj => ?_, fun j hj hnl hvj => ?_⟩
    · have hm : m < 1 := hm
      have : m = 0 := by omega
      subst this
      exact ⟨hk, fun e => Iff.rfl⟩
    · rw [e]
      exact kept_put hp hD hk hf.1 fun j hj hl hvj => hf.2 j hj (fun h => hD.irr j (hD.tr _ _ _ h hl)) hvj
    · rw [e]
      exact entsS_new hp hv x
    · rw [e, nth_setS hp, if_neg (fun h : j = p => by rw [h] at hj; exact hD.irr p hj)]
    · rw [e, nth_setS hp] at hvj ⊢
      by_cases ej : j = p
      · rw [if_pos ej]; exact .inl rfl
      · rw [if_neg ej] at hvj ⊢
        exact .inr ⟨j, hj, hnl, hvj, rfl⟩
  | q :: w, p, x, hx, ⟨hp, hv, hpq, hgap, hw⟩, hf => by
    have hfit : Fits lt A s q (nth s p).e := by
      refine ⟨fun j hj hl hvj => ?_, fun j hj hl hvj => ?_⟩
      · rcases hD.tri j p with h | h | h
        · exact hk j p hj hp h hvj hv
        · rw [h]; exact hA _
        · exact hgap j hj h hl hvj
      · refine hk p j hp hj ?_ hv hvj
        rcases hD.tri j q with h | h | h
        · exact absurd h hl
        · rw [h]; exact hpq
        · exact hD.tr _ _ _ hpq h
    have ih := way_good hD hA hk hr w q (nth s p).e (hr p hp hv) hw hfit
    have hl1 := applyW_len (wayWrites s (nth s p).e (q :: w)) s
    have hW : wayWrites s x (p :: q :: w) = wayWrites s (nth s p).e (q :: w) ++ [⟨p, ⟨true, x⟩⟩] := rfl
    rw [hW]
    generalize wayWrites s (nth s p).e (q :: w) = V at ih hl1
    have hap : nth (applyW s V) p = nth s p := ih.ahead p hpq
    have e : applyW s (V ++ [⟨p, ⟨true, x⟩⟩]) = (applyW s V).set p ⟨true, x⟩ := by
      rw [applyW_app]
      exact app1_put (by omega) hx
    have hpt : p < (applyW s V).length := by omega
    -- what stands behind p comes from p on
    have hsrc : ∀ j, j < s.length → lt p j → (nth (applyW s V) j).valid = true → ∃ i, i < s.length ∧ ¬ lt i p ∧ (nth s i).valid = true ∧ (nth (applyW s V) j).e = (nth s i).e := fun j hj hl hvj => by
      by_cases c : lt j q
      · rw [ih.ahead j c] at hvj ⊢
        exact ⟨j, hj, fun h => hD.irr j (hD.tr _ _ _ h hl), hvj, rfl⟩
      · rcases ih.src j hj c hvj with h | ⟨i, h1, h2, h3, h4⟩
        · exact ⟨p, hp, hD.irr p, hv, h⟩
        · refine ⟨i, h1, fun h => h2 (hD.tr _ _ _ h hpq), h3, h4⟩
    refine ⟨fun m hm => ?_, ?_, ?_, fun j hj => ?_, fun j hj hnl hvj => ?_⟩
    · rw [List.length_append, List.length_singleton] at hm
      rw [List.take_append_of_le_length (by omega)]
      by_cases c : m < V.length
      · exact ih.pre m c
      · rw [List.take_of_length_le (by omega)]
        refine ⟨ih.kept, fun e => ?_⟩
        rw [ih.perm.mem_iff, List.mem_cons]
        constructor
        · rintro (h | h)
          · rw [h]; exact mem_entsS_iff.2 ⟨p, hp, hv, rfl⟩
          · exact h
        · exact .inr
    · rw [e]
      refine kept_put hpt hD ih.kept (fun j hj hl hvj => ?_) fun j hj hl hvj => ?_
      · rw [ih.ahead j (hD.tr _ _ _ hl hpq)] at hvj ⊢
        exact hf.1 j (by omega) hl hvj
      · obtain ⟨i, h1, h2, h3, h4⟩ := hsrc j (by omega) hl hvj
        rw [h4]
        exact hf.2 i h1 h2 h3
    · rw [e]
      have h1 := entsS_over hpt (by rw [hap]; exact hv) x
      rw [hap] at h1
      have h2 := h1.trans (ih.perm.cons x)
      exact (h2.trans (List.Perm.swap _ _ _)).cons_inv
    · rw [e, nth_setS hpt, if_neg (fun h : j = p => by rw [h] at hj; exact hD.irr p hj), ih.ahead j (hD.tr _ _ _ hj hpq)]
    · rw [e, nth_setS hpt] at hvj ⊢
      by_cases ej : j = p
      · rw [if_pos ej]; exact .inl rfl
      · rw [if_neg ej] at hvj ⊢
        have hl : lt p j := by
          rcases hD.tri j p with h | h | h
          · exact absurd h hnl
          · exact absurd h ej
          · exact h
        exact .inr (hsrc j hj hl hvj)
end
end Go.Proofs.YtjmnnkhdadoehaaGreat

/- An entry stands: insC and insP along ways; in plain Lean. -/
namespace Go.Proofs.YtjmnnkhdadoehaaGreat
set_option linter.unusedSimpArgs false
set_option linter.unusedVariables false
open Go
structure InsGood (K : List Slt → Prop) (s : List Slt) (x : Ent) (W : List Wrt) : Prop where
  pre : ∀ m, m < W.length → K (applyW s (W.take m)) ∧ ∀ e, e ∈ entsS (applyW s (W.take m)) ↔ e ∈ entsS s
  kept : K (applyW s W)
  perm : (entsS (applyW s W)).Perm (x :: entsS s)
theorem WayGood.ins {lt : Nat → Nat → Prop} {A : Ent → Ent → Bool} {s : List Slt} {p : Nat} {x : Ent} {W : List Wrt} {K : List Slt → Prop} (h : WayGood lt A s p x W) (hK : ∀ s, KeptG lt A s ↔ K s) : InsGood K s x W :=
  ⟨fun m hm => ⟨(hK _).1 (h.pre m hm).1, (h.pre m hm).2⟩, (hK _).1 h.kept, h.perm⟩
/-! ### Chains -/
theorem keptC (s : List Slt) : KeptG (fun i j => i < j) eAbove s ↔ ordered (entsS s) = true := by
  rw [ordS_iff]
  constructor
  · intro h
    exact OrdS.of_get fun i j hij hj hi hv => h i j (by omega) hj hij hi hv
  · intro h i j hi hj hij hv hw
    exact h.get hij hj hv hw
theorem keptC' (s : List Slt) : KeptG (fun i j => j < i) (fun e f => eAbove f e) s ↔ ordered (entsS s) = true := by
  rw [← keptC]
  exact ⟨fun h i j hi hj hij hv hw => h j i hj hi hij hw hv, fun h i j hi hj hij hv hw => h j i hj hi hij hw hv⟩
theorem writesOf_way (l : List Slt) : ∀ (w : List Nat) (p : Nat) (x : Ent), (∀ j, j < w.length → (nth l (nth (p :: w) j)).valid = true) → writesOf l x ((p :: w).map Int.ofNat) = wayWrites l x (p :: w)
  | [], p, x, _ => rfl
  | q :: w, p, x, hv => by
    have ih := writesOf_way l w q (nth l p).e fun j hj => hv (j + 1) (by simp only [List.length_cons]; omega)
    have hp : nth l p = ⟨true, (nth l p).e⟩ := by
      have := hv 0 (by simp)
      have e : nth (p :: q :: w) 0 = p := rfl
      rw [e] at this
      cases h : nth l p with
      | mk v e => rw [h] at this; dsimp only at this; rw [this]
    have hn : ∀ (a : Int) (v : List Int) (j : Nat), nth (a :: v) (j + 1) = nth v j := fun a v j => rfl
    show writesOf l x (Int.ofNat p :: (q :: w).map Int.ofNat) = wayWrites l (nth l p).e (q :: w) ++ [⟨p, ⟨true, x⟩⟩]
    rw [← ih]
    generalize hv2 : (q :: w).map Int.ofNat = v
    have hvl : v.length = w.length + 1 := by rw [← hv2]; simp
    have hv0 : nth v 0 = (q : Int) := by rw [← hv2]; rfl
    unfold writesOf
    congr 1
    rw [List.length_cons, Nat.add_sub_cancel]
    show writesTo l (Int.ofNat p :: v) v.length = _
    obtain ⟨n, hn2⟩ : ∃ n, v.length = n + 1 := ⟨w.length, hvl⟩
    rw [hn2, Nat.add_sub_cancel]
    unfold writesTo
    rw [List.range_succ, List.map_append]
    congr 1
    · refine List.map_congr_left fun j hj => ?_
      have hj := List.mem_range.1 hj
      unfold wr1
      rw [List.length_cons, hn2]
      rw [show n + 1 + 1 - 1 - j = (n + 1 - 1 - j) + 1 by omega, hn, show n + 1 + 1 - 2 - j = (n + 1 - 2 - j) + 1 by omega, hn]
    · simp only [List.map_cons, List.map_nil]
      unfold wr1
      rw [List.length_cons, hn2, show n + 1 + 1 - 1 - n = 0 + 1 by omega, hn, hv0, show n + 1 + 1 - 2 - n = 0 by omega, ← hp]
      rfl
theorem way_valid {lt : Nat → Nat → Prop} {A : Ent → Ent → Bool} {l : List Slt} : ∀ (w : List Nat) (p : Nat), WayOK lt A l (p :: w) → ∀ j, j < w.length → (nth l (nth (p :: w) j)).valid = true
  | [], p, _, j, hj => by simp at hj
  | q :: w, p, ⟨_, hv, _, _, hw⟩, j, hj => by
    cases j with
    | zero => exact hv
    | succ j => exact way_valid w q hw j (by simpa using hj)
theorem wayB_ok (l : List Slt) : ∀ (f k : Nat), k < l.length → (nth l k).valid = true → wayG (nextB l) l.length f k ≠ [] → ∃ w : List Nat, wayG (nextB l) l.length f k = (k :: w).map Int.ofNat ∧ WayOK (fun i j => i < j) eAbove l (k :: w)
  | 0, k, _, _, h => absurd rfl h
  | f + 1, k, hk, hv, h => by
    obtain ⟨q1, q2, q3, q4⟩ := loF_spec l (nth l k).e (show k + 1 ≤ l.length by omega)
    have hgap : ∀ j, j < l.length → k < j → j < loF l (nth l k).e (k + 1) → (nth l j).valid = true → eAbove (nth l k).e (nth l j).e = false := fun j _ h1 h2 h3 => by
      have := q3 j (by omega) h2
      unfold loP at this
      rw [h3, Bool.true_and] at this
      exact this
    have hnx : nextB l (k : Int) = ((loF l (nth l k).e (k + 1) : Int), emFirst l (k + 1) (loF l (nth l k).e (k + 1))) := by
      unfold nextB; rw [Int.toNat_natCast]
    by_cases hfr : 0 ≤ (nextB l (k : Int)).2
    · rw [wayG_free ⟨by omega, by omega⟩ hfr]
      rw [hnx] at hfr ⊢
      dsimp only at hfr ⊢
      rcases emFirst_spec l q1 with ⟨e, _⟩ | ⟨r, e, h1, h2, h3, h4⟩
      · omega
      · rw [e]
        refine ⟨[r], rfl, hk, hv, by omega, fun j hj h5 h6 h7 => hgap j hj h5 (by omega) h7, by omega, h3⟩
    · rw [wayG_far ⟨by omega, by omega⟩ hfr] at h ⊢
      rw [hnx] at h ⊢
      dsimp only at h ⊢
      have hne : wayG (nextB l) l.length f (loF l (nth l k).e (k + 1) : Int) ≠ [] := fun e => h (behind_eq_nil.2 e)
      have hm : loF l (nth l k).e (k + 1) < l.length := Classical.byContradiction fun hc => hne (wayG_out (by omega))
      have hvm : (nth l (loF l (nth l k).e (k + 1))).valid = true := by
        have := q4 hm
        unfold loP at this
        rw [Bool.and_eq_true] at this
        exact this.1
      obtain ⟨w, e1, e2⟩ := wayB_ok l f _ hm hvm hne
      refine ⟨loF l (nth l k).e (k + 1) :: w, by rw [e1]; rfl, hk, hv, by omega, fun j hj h5 h6 h7 => hgap j hj h5 h6 h7, e2⟩
theorem wayA_ok (l : List Slt) : ∀ (f k : Nat), k < l.length → (nth l k).valid = true → wayG (nextA l) l.length f k ≠ [] → ∃ w : List Nat, wayG (nextA l) l.length f k = (k :: w).map Int.ofNat ∧ WayOK (fun i j => j < i) (fun e f => eAbove f e) l (k :: w)
  | 0, k, _, _, h => absurd rfl h
  | f + 1, k, hk, hv, h => by
    have hb := lastTo_bound (hiP l (nth l k).e) k
    obtain ⟨q3, q4⟩ := lastTo_spec (hiP l (nth l k).e) k
    have hh : hiF l (nth l k).e k = lastTo (hiP l (nth l k).e) k := rfl
    have hnx : nextA l (k : Int) = (hiF l (nth l k).e k, emLast l (hiF l (nth l k).e k + 1).toNat k) := by
      unfold nextA; rw [Int.toNat_natCast]
    rw [← hh] at hb q3 q4
    have hgap : ∀ j, j < l.length → j < k → hiF l (nth l k).e k < (j : Int) → (nth l j).valid = true → eAbove (nth l j).e (nth l k).e = false := fun j _ h1 h2 h3 => by
      have := q3 j h2 h1
      unfold hiP at this
      rw [h3, Bool.true_and] at this
      exact this
    by_cases hfr : 0 ≤ (nextA l (k : Int)).2
    · rw [wayG_free ⟨by omega, by omega⟩ hfr]
      rw [hnx] at hfr ⊢
      dsimp only at hfr ⊢
      rcases emLast_spec l (hiF l (nth l k).e k + 1).toNat k with ⟨e, _⟩ | ⟨r, e, h1, h2, h3, h4⟩
      · omega
      · rw [e]
        refine ⟨[r], rfl, hk, hv, by omega, fun j hj h5 h6 h7 => hgap j hj (by omega) (by omega) h7, by omega, h3⟩
    · rw [wayG_far ⟨by omega, by omega⟩ hfr] at h ⊢
      rw [hnx] at h ⊢
      dsimp only at h ⊢
      have hne : wayG (nextA l) l.length f (hiF l (nth l k).e k) ≠ [] := fun e => h (behind_eq_nil.2 e)
      have hm : 0 ≤ hiF l (nth l k).e k := Classical.byContradiction fun hc => hne (wayG_out (by omega))
      obtain ⟨m, hme⟩ : ∃ m : Nat, hiF l (nth l k).e k = m := ⟨(hiF l (nth l k).e k).toNat, by omega⟩
      rw [hme] at hne hgap hb q4 ⊢
      have hvm : (nth l m).valid = true := by
        have := q4 (by omega)
        rw [Int.toNat_natCast] at this
        unfold hiP at this
        rw [Bool.and_eq_true] at this
        exact this.1
      obtain ⟨w, e1, e2⟩ := wayA_ok l f m (by omega) hvm hne
      refine ⟨m :: w, by rw [e1]; rfl, hk, hv, by omega, fun j hj h5 h6 h7 => hgap j hj (by omega) (by omega) h7, e2⟩
theorem insC_good {l : List Slt} {x : Ent} (hr : RightS l) (hx : eRight x = true) (ho : ordered (entsS l) = true) (hg : gapFrom l x ≤ gapTo l x) (hf : ¬ ∀ j, j < l.length → (nth l j).valid = true) :
    ∃ W, insC l x = (W, 0) ∧ W ≠ [] ∧ InsGood (fun s => ordered (entsS s) = true) l x W := by
  have hfb := gapFrom_bound l x
  have htb := gapTo_bound l x
  have hlo := (loF_spec l x (Nat.zero_le _)).2.2.1
  have hvt : gapTo l x < l.length → (nth l (gapTo l x)).valid = true := fun h => by
    have := (loF_spec l x (Nat.zero_le _)).2.2.2 h
    unfold loP at this
    rw [Bool.and_eq_true] at this
    exact this.1
  have hq : gapFrom l x = lastTo (hiP l x) l.length + 1 := rfl
  obtain ⟨hhi, hhi2⟩ := lastTo_spec (hiP l x) l.length
  have hvf : 0 ≤ gapFrom l x - 1 → (nth l (gapFrom l x - 1).toNat).valid = true := fun h => by
    have := hhi2 (by omega)
    rw [show (lastTo (hiP l x) l.length).toNat = (gapFrom l x - 1).toNat by omega] at this
    unfold hiP at this
    rw [Bool.and_eq_true] at this
    exact this.1
  have f1 : ∀ j, j < l.length → j < gapTo l x → (nth l j).valid = true → eAbove x (nth l j).e = false := fun j _ h hv => by
    have := hlo j (Nat.zero_le _) h
    unfold loP at this
    rw [hv, Bool.true_and] at this
    exact this
  have f2 : ∀ j, j < l.length → gapFrom l x ≤ (j : Int) → (nth l j).valid = true → eAbove (nth l j).e x = false := fun j hj h hv => by
    have := hhi j (by omega) hj
    unfold hiP at this
    rw [hv, Bool.true_and] at this
    exact this
  have hE := emFirst_spec l (show (gapFrom l x).toNat ≤ gapTo l x by omega)
  have hkd := (keptC l).2 ho
  have hku := (keptC' l).2 ho
  have down : ∀ (p : Nat) (w : List Nat), (p : Int) ≤ gapTo l x → gapFrom l x ≤ p → WayOK (fun i j => i < j) eAbove l (p :: w) → InsGood (fun s => ordered (entsS s) = true) l x (writesOf l x ((p :: w).map Int.ofNat)) := fun p w h1 h2 hw => by
    rw [writesOf_way l w p x (way_valid w p hw)]
    exact (way_good dir_down eAbove_irr hkd hr w p x hx hw ⟨fun j hj hl hv => f1 j hj (by omega) hv, fun j hj hl hv => f2 j hj (by omega) hv⟩).ins keptC
  have hne : ∀ p w, writesOf l x ((p :: w).map Int.ofNat) ≠ [] := fun p w h => by
    unfold writesOf at h
    simp at h
  have hfull := (full_ins hx ho hg).2 hf
  have hins : insC l x = insC l x := rfl
  conv at hins => rhs; unfold insC
  rw [if_neg (by rw [hx]; decide), if_neg (by rw [ho]; rintro (h | h); cases h; omega)] at hins
  by_cases hem : 0 ≤ emFirst l (gapFrom l x).toNat (gapTo l x)
  · rw [if_pos hem] at hins
    rcases hE with ⟨e, _⟩ | ⟨r, e, h1, h2, h3, _⟩
    · omega
    · rw [e] at hins
      exact ⟨_, hins, hne r [], down r [] (by omega) (by omega) ⟨by omega, h3⟩⟩
  · rw [if_neg hem] at hins
    have hup : wayA l (gapFrom l x - 1) ≠ [] → InsGood (fun s => ordered (entsS s) = true) l x (writesOf l x (wayA l (gapFrom l x - 1))) ∧ writesOf l x (wayA l (gapFrom l x - 1)) ≠ [] := fun h => by
      have h0 : 0 ≤ gapFrom l x - 1 := Classical.byContradiction fun hc => h (wayG_out (by omega))
      obtain ⟨m, hme⟩ : ∃ m : Nat, gapFrom l x - 1 = m := ⟨(gapFrom l x - 1).toNat, by omega⟩
      have hvm := hvf h0
      rw [hme, Int.toNat_natCast] at hvm
      unfold wayA at h ⊢
      rw [hme] at h ⊢
      obtain ⟨w, e1, e2⟩ := wayA_ok l (l.length + 1) m (by omega) hvm h
      rw [e1]
      refine ⟨?_, hne m w⟩
      rw [writesOf_way l w m x (way_valid w m e2)]
      exact (way_good (A := fun e f => eAbove f e) dir_up (fun e => eAbove_irr e) hku hr w m x hx e2 ⟨fun j hj hl hv => f2 j hj (by omega) hv, fun j hj hl hv => f1 j hj (by omega) hv⟩).ins keptC'
    have hdn : wayB l (gapTo l x) ≠ [] → InsGood (fun s => ordered (entsS s) = true) l x (writesOf l x (wayB l (gapTo l x))) ∧ writesOf l x (wayB l (gapTo l x)) ≠ [] := fun h => by
      have h0 : gapTo l x < l.length := Classical.byContradiction fun hc => h (wayG_out (by omega))
      unfold wayB at h ⊢
      obtain ⟨w, e1, e2⟩ := wayB_ok l (l.length + 1) (gapTo l x) h0 (hvt h0) h
      rw [e1]
      exact ⟨down _ w (by omega) hg e2, hne _ w⟩
    by_cases hz : (wayB l (gapTo l x)).length + (wayA l (gapFrom l x - 1)).length = 0
    · rw [if_pos hz] at hins
      rw [hins] at hfull
      simp at hfull
    · rw [if_neg hz] at hins
      split at hins
      · rename_i hc
        obtain ⟨g1, g2⟩ := hup (fun e => by
          rw [e] at hc hz
          rcases hc with h | h
          · exact hz (by rw [h]; rfl)
          · exact absurd h.1 (by simp))
        exact ⟨_, hins, g2, g1⟩
      · rename_i hc
        obtain ⟨g1, g2⟩ := hdn (fun e => hc (.inl (by rw [e]; rfl)))
        exact ⟨_, hins, g2, g1⟩
/-! ### Lengths -/
def lenA (e f : Ent) : Bool := decide (f.len < e.len)
theorem lenA_f {e f : Ent} : lenA e f = false ↔ e.len ≤ f.len := by
  unfold lenA
  rw [decide_eq_false_iff_not]
  omega
theorem keptL (s : List Slt) : KeptG (fun i j => i < j) lenA s ↔ keptP s = true := by
  rw [keptP_iff]
  constructor
  · intro h i j hij hj hv hw
    exact lenA_f.1 (h i j (by omega) hj hij hv hw)
  · intro h i j hi hj hij hv hw
    exact lenA_f.2 (h i j hij hj hv hw)
theorem keptL' (s : List Slt) : KeptG (fun i j => j < i) (fun e f => lenA f e) s ↔ keptP s = true := by
  rw [← keptL]
  exact ⟨fun h i j hi hj hij hv hw => h j i hj hi hij hw hv, fun h i j hi hj hij hv hw => h j i hj hi hij hw hv⟩
def tailW (s : List Slt) : List Nat → List Wrt
  | p :: q :: w => wayWrites s (nth s p).e (q :: w)
  | _ => []
theorem wayWrites_tail (s : List Slt) (y : Ent) (p : Nat) (w : List Nat) : wayWrites s y (p :: w) = tailW s (p :: w) ++ [⟨p, ⟨true, y⟩⟩] := by
  cases w <;> rfl
theorem slt_true {s : Slt} (h : s.valid = true) : s = ⟨true, s.e⟩ := by
  cases s with
  | mk v e => dsimp only at h; rw [h]
theorem shB_way {l : List Slt} {x : Ent} {to a0 : Nat} (hv : ∀ j, to ≤ j → j < a0 → (nth l j).valid = true) (hs : ∀ i j, to ≤ i → i ≤ j → j < a0 → lenAt l j ≤ lenAt l i) (h0 : a0 < l.length) :
    ∀ (n a : Nat) (t : List Nat), a - to = n → to ≤ a → a ≤ a0 → WayOK (fun i j => i < j) lenA l (a :: t) → ∃ w, WayOK (fun i j => i < j) lenA l (to :: w) ∧ wayWrites l x (to :: w) = tailW l (a :: t) ++ shB l x to a := by
  intro n
  induction n using Nat.strongRecOn with
  | _ n ih =>
    intro a t hn h1 h2 hw
    by_cases c : to < a
    · obtain ⟨b1, b2⟩ := dnB_bound (l := l) c
      obtain ⟨_, _, _, d4⟩ := firstF_spec (fun i => decide (lenAt l i = lenAt l (a - 1))) (a - 1 - to) to
      have hk : lenAt l (dnB l to a) = lenAt l (a - 1) := by
        by_cases e : dnB l to a = a - 1
        · rw [e]
        · have := d4 (by have e2 : dnB l to a = firstF (fun i => decide (lenAt l i = lenAt l (a - 1))) (a - 1 - to) to := rfl; omega)
          exact of_decide_eq_true this
      rw [shB_step l x c]
      generalize dnB l to a = k at b1 b2 hk
      have hvk := hv k b1 (by omega)
      have hw2 : WayOK (fun i j => i < j) lenA l (k :: a :: t) := ⟨by omega, hvk, b2, fun j hj h3 h4 h5 => lenA_f.2 (by
        have := hs j (a - 1) (by omega) (by omega) (by omega)
        unfold lenAt at this hk
        omega), hw⟩
      obtain ⟨w, e1, e2⟩ := ih (k - to) (by omega) k (a :: t) rfl b1 (by omega) hw2
      refine ⟨w, e1, ?_⟩
      rw [e2, show tailW l (k :: a :: t) = wayWrites l (nth l k).e (a :: t) from rfl, wayWrites_tail, List.append_assoc, ← slt_true hvk]
      rfl
    · obtain rfl : a = to := by omega
      exact ⟨t, hw, by rw [shB_end, wayWrites_tail]⟩
theorem shA_way {l : List Slt} {x : Ent} {la a0 : Nat} (hv : ∀ j, a0 < j → j ≤ la → (nth l j).valid = true) (hs : ∀ i j, a0 < i → i ≤ j → j ≤ la → lenAt l j ≤ lenAt l i) (h0 : la < l.length) :
    ∀ (n a : Nat) (t : List Nat), la - a = n → a0 ≤ a → a ≤ la → WayOK (fun i j => j < i) (fun e f => lenA f e) l (a :: t) → ∃ w, WayOK (fun i j => j < i) (fun e f => lenA f e) l (la :: w) ∧ wayWrites l x (la :: w) = tailW l (a :: t) ++ shA l x la a := by
  intro n
  induction n using Nat.strongRecOn with
  | _ n ih =>
    intro a t hn h1 h2 hw
    by_cases c : a < la
    · obtain ⟨b1, b2⟩ := upA_bound (l := l) c
      obtain ⟨_, d4⟩ := lastTo_spec (fun i => decide (lenAt l i = lenAt l (a + 1))) (la + 1)
      have hk : lenAt l (upA l la a) = lenAt l (a + 1) := by
        have e2 : upA l la a = (lastTo (fun i => decide (lenAt l i = lenAt l (a + 1))) (la + 1)).toNat := rfl
        have := d4 (by omega)
        rw [← e2] at this
        exact of_decide_eq_true this
      rw [shA_step l x c]
      generalize upA l la a = k at b1 b2 hk
      have hvk := hv k (by omega) b2
      have hw2 : WayOK (fun i j => j < i) (fun e f => lenA f e) l (k :: a :: t) := ⟨by omega, hvk, b1, fun j hj h3 h4 h5 => lenA_f.2 (by
        have := hs (a + 1) j (by omega) (by omega) (by omega)
        unfold lenAt at this hk
        omega), hw⟩
      obtain ⟨w, e1, e2⟩ := ih (la - k) (by omega) k (a :: t) rfl (by omega) b2 hw2
      refine ⟨w, e1, ?_⟩
      rw [e2, show tailW l (k :: a :: t) = wayWrites l (nth l k).e (a :: t) from rfl, wayWrites_tail, List.append_assoc, ← slt_true hvk]
      rfl
    · obtain rfl : a = la := by omega
      exact ⟨t, hw, by rw [shA_end, wayWrites_tail]⟩
theorem lenA_irr (e : Ent) : lenA e e = false := lenA_f.2 (Int.le_refl _)
theorem insP_good {l : List Slt} {x : Ent} (hr : RightS l) (hx : eRight x = true) (hk : keptP l = true) (hf : ¬ ∀ j, j < l.length → (nth l j).valid = true) :
    ∃ W, insP l x = (W, 0) ∧ W ≠ [] ∧ InsGood (fun s => keptP s = true) l x W := by
  obtain ⟨fr, tt, efr, ett, hft, htl, hB, hA, hN⟩ := insP_prep (n := x.len) hk
  obtain ⟨_, _, g3⟩ := fL_ge l x.len l.length
  obtain ⟨_, _, t3⟩ := tL_le l x.len l.length
  rw [efr] at g3
  rw [ett] at t3
  have f1 : ∀ j, j < l.length → j < tt → (nth l j).valid = true → lenA x (nth l j).e = false := fun j hj h hv => lenA_f.2 (Classical.byContradiction fun hc => by
    have := t3 j hj hv (by omega)
    omega)
  have f2 : ∀ j, j < l.length → fr ≤ j → (nth l j).valid = true → lenA (nth l j).e x = false := fun j hj h hv => lenA_f.2 (Classical.byContradiction fun hc => by
    have := g3 j hj hv (by omega)
    omega)
  have hkd := (keptL l).2 hk
  have hku := (keptL' l).2 hk
  have down : ∀ (p : Nat) (w : List Nat), p ≤ tt → fr ≤ p → WayOK (fun i j => i < j) lenA l (p :: w) → InsGood (fun s => keptP s = true) l x (wayWrites l x (p :: w)) := fun p w h1 h2 hw =>
    (way_good dir_down lenA_irr hkd hr w p x hx hw ⟨fun j hj hl hv => f1 j hj (by omega) hv, fun j hj hl hv => f2 j hj (by omega) hv⟩).ins keptL
  have hE := emFirst_spec l hft
  have hins : insP l x = insP l x := rfl
  conv at hins => rhs; unfold insP
  rw [if_neg (by rw [hx]; decide), if_neg (by rw [hk]; decide), if_neg (fun e => hf (all_ents e)), efr, ett] at hins
  simp only [Int.toNat_natCast] at hins
  by_cases hem : 0 ≤ emFirst l fr tt
  · rw [if_pos hem] at hins
    rcases hE with ⟨e, _⟩ | ⟨r, e, h1, h2, h3, _⟩
    · omega
    · rw [e] at hins
      exact ⟨_, hins, by simp, down r [] (by omega) h1 ⟨by omega, h3⟩⟩
  · rw [if_neg hem] at hins
    have hup : ∀ u : Nat, emLast l 0 fr = u → InsGood (fun s => keptP s = true) l x (shA l x (fr - 1) u) := fun u hu => by
      obtain ⟨a1, a2⟩ := hA u hu
      rcases emLast_spec l 0 fr with ⟨e, _⟩ | ⟨r, e, _, _, h4, h5⟩
      · omega
      · obtain rfl : r = u := by omega
        obtain ⟨w, e1, e2⟩ := shA_way (x := x) (la := fr - 1) (a0 := r) (fun j z1 z2 => h5 j z1 (by omega)) a2 (by omega) _ r [] rfl (Nat.le_refl _) (by omega) ⟨by omega, h4⟩
        have e3 : wayWrites l x ((fr - 1) :: w) = shA l x (fr - 1) r := e2
        rw [← e3]
        exact (way_good (A := fun e f => lenA f e) dir_up (fun e => lenA_irr e) hku hr w (fr - 1) x hx e1 ⟨fun j hj hl hv => f2 j hj (by omega) hv, fun j hj hl hv => f1 j hj (by omega) hv⟩).ins keptL'
    have hdn : ∀ d : Nat, emFirst l tt l.length = d → InsGood (fun s => keptP s = true) l x (shB l x tt d) := fun d hd => by
      obtain ⟨b1, b2, b3⟩ := hB d hd
      rcases emFirst_spec l htl with ⟨e, _⟩ | ⟨r, e, _, _, h4, h5⟩
      · omega
      · obtain rfl : r = d := by omega
        obtain ⟨w, e1, e2⟩ := shB_way (x := x) (to := tt) (a0 := r) (fun j z1 z2 => h5 j z1 z2) b3 b1 _ r [] rfl b2 (Nat.le_refl _) ⟨b1, h4⟩
        have e3 : wayWrites l x (tt :: w) = shB l x tt r := e2
        rw [← e3]
        exact down tt w (Nat.le_refl _) hft e1
    have hneA : ∀ u, shA l x (fr - 1) u ≠ [] := fun u h => by
      have := (shA_len l x (fr - 1) u).1
      rw [h] at this; simp at this
    have hneB : ∀ d, shB l x tt d ≠ [] := fun d h => by
      have := (shB_len l x tt d).1
      rw [h] at this; simp at this
    by_cases d0 : emFirst l tt l.length < 0
    · rw [if_pos d0] at hins
      have u0 : 0 ≤ emLast l 0 fr := Classical.byContradiction fun h => hf (all_ents (hN (by omega) d0 (by omega)))
      exact ⟨_, hins, hneA _, hup _ (by omega)⟩
    · rw [if_neg d0] at hins
      split at hins
      · rename_i hc
        exact ⟨_, hins, hneA _, hup _ (by omega)⟩
      · exact ⟨_, hins, hneB _, hdn _ (by omega)⟩
end Go.Proofs.YtjmnnkhdadoehaaGreat

/- Slots into which a row's entries go one by one; what ordered slots tell; in plain Lean. -/
namespace Go.Proofs.YtjmnnkhdadoehaaGreat
set_option linter.unusedSimpArgs false
set_option linter.unusedVariables false
open Go
theorem meet_both {x y : W2} {a : A2} (hx : rMatch x a = true) (hy : rMatch y a = true) : rMeet x y = true := by
  unfold rMatch at hx hy
  unfold rMeet
  rw [allTo_iff] at hx hy ⊢
  intro k hk
  have h1 := hx k hk
  have h2 := hy k hk
  unfold rMatchP at h1 h2
  unfold rMeetP
  revert h1 h2
  cases abit x.m k <;> cases abit x.v k <;> cases abit y.m k <;> cases abit y.v k <;> cases abit a k <;> decide
theorem tellS_tell {l : List Slt} {a : A2} (ho : ordered (entsS l) = true) (hok : ∀ x ∈ entsS l, x.w.ok) (ha : a.ok) (hno : NoClash (entsS l) a) : tellS l a = tell (entsS l) a := by
  have hit : ∀ k, k < l.length → hitS a (nth l k) = true → (nth l k).e ∈ entsS l ∧ wMatch (nth l k).e.w a = true ∧ (nth l k).valid = true := fun k hk h => by
    unfold hitS at h
    rw [Bool.and_eq_true] at h
    exact ⟨mem_entsS hk h.1, h.2, h.1⟩
  rcases tell_is (entsS l) a with ⟨h1, h2⟩ | ⟨e, he, h1, h2, h3⟩ <;> rcases idxS_cases l (hitS a) with ⟨i1, i2⟩ | ⟨k, hk, i1, i2, i3⟩
  · unfold tellS
    rw [i1, h1]
    rfl
  · obtain ⟨m1, m2, _⟩ := hit k hk i2
    rw [h2 _ m1] at m2; cases m2
  · obtain ⟨m, hm, hv, rfl⟩ := mem_entsS_iff.1 he
    have := i2 m hm
    unfold hitS at this
    rw [hv, h1] at this; cases this
  · obtain ⟨m1, m2, hv⟩ := hit k hk i2
    unfold tellS
    rw [i1, if_neg (by omega), Int.toNat_natCast, h3]
    refine hno _ m1 _ he m2 h1 ?_
    have hle := h2 _ m1 m2
    obtain ⟨m, hm, hvm, rfl⟩ := mem_entsS_iff.1 he
    rcases Nat.lt_trichotomy m k with c | c | c
    · have := i3 m c
      unfold hitS at this
      rw [hvm, h1] at this; cases this
    · rw [c]
    · have hk2 := ((ordS_iff l).1 ho).get c hm hv hvm
      unfold eAbove at hk2
      have h4 : wMeet (nth l m).e.w (nth l k).e.w = true := by
        rw [meet_ref (hok _ he) (hok _ m1)]
        rw [match_ref (hok _ he) ha] at h1
        rw [match_ref (hok _ m1) ha] at m2
        exact meet_both h1 m2
      rw [h4, Bool.and_true, decide_eq_false_iff_not] at hk2
      omega
theorem tellS_of {l : List Slt} {xs : List Ent} {a : A2} (ho : ordered (entsS l) = true) (hm : ∀ e, e ∈ entsS l ↔ e ∈ xs) (hok : ∀ x ∈ xs, x.w.ok) (ha : a.ok) (hno : NoClash xs a) : tellS l a = tell xs a := by
  have hno2 : NoClash (entsS l) a := fun e he f hf => hno e ((hm e).1 he) f ((hm f).1 hf)
  rw [tellS_tell ho (fun x hx => hok x ((hm x).1 hx)) ha hno2]
  exact tell_same (fun e => (hm e).symm) hno
theorem simple_noClash {xs : List Ent} {a : A2} (h : SimpleR xs) (hok : ∀ x ∈ xs, x.w.ok) (ha : a.ok) : NoClash xs a := fun e he f hf h1 h2 h3 => by
  by_cases hne : e = f
  · rw [hne]
  · refine absurd ⟨h3, ?_⟩ (h.of_mem he hf hne)
    rw [match_ref (hok e he) ha] at h1
    rw [match_ref (hok f hf) ha] at h2
    exact meet_both h1 h2
theorem keptPl_ordered {order : Int} {s : List Slt} (h : keptPl order s = true) : ordered (entsS s) = true := by
  unfold keptPl at h
  split at h
  · exact adj_ordered ((keptP_adj s).1 h)
  · split at h
    · exact h
    · cases h
theorem rightS_iff {s : List Slt} : RightS s ↔ ∀ e ∈ entsS s, eRight e = true := by
  constructor
  · intro h e he
    obtain ⟨k, hk, hv, rfl⟩ := mem_entsS_iff.1 he
    exact h k hk hv
  · intro h k hk hv
    exact h _ (mem_entsS hk hv)
theorem ins_step' {order : Int} (ho : ordPl order = true) {s : List Slt} {x : Ent} (hk : keptPl order s = true) (hr : ∀ e ∈ entsS s, eRight e = true) (hp : ∀ e ∈ entsS s, order = 1 → IsPfx e) (hx : order = 1 → IsPfx x) (hxr : eRight x = true) :
    ((entsS s).length = s.length → insPl order s x = ([], 3)) ∧ (¬ (entsS s).length = s.length → ∃ W, insPl order s x = (W, 0) ∧ W ≠ [] ∧ InsGood (fun s => keptPl order s = true) s x W) := by
  have hR := rightS_iff.2 hr
  by_cases o0 : order = 0
  · have hk0 : ∀ t, keptPl order t = keptP t := fun t => by unfold keptPl; rw [if_pos o0]
    have hi : insPl order s x = insP s x := by unfold insPl; rw [if_pos o0]
    rw [hk0] at hk
    rw [hi]
    refine ⟨fun h => ?_, fun h => ?_⟩
    · unfold insP
      rw [if_neg (by rw [hxr]; decide), if_neg (by rw [hk]; decide), if_pos h]
    · obtain ⟨W, e1, e2, e3⟩ := insP_good hR hxr hk fun hall => h (ents_all hall)
      refine ⟨W, e1, e2, ⟨fun m hm => ?_, ?_, e3.perm⟩⟩
      · rw [hk0]; exact e3.pre m hm
      · rw [hk0]; exact e3.kept
  · have o1 : order = 1 := by
      unfold ordPl at ho
      rw [Bool.or_eq_true, decide_eq_true_eq, decide_eq_true_eq] at ho
      omega
    have hk0 : ∀ t, keptPl order t = ordered (entsS t) := fun t => by unfold keptPl; rw [if_neg o0, if_pos o1]
    have hi : insPl order s x = insC s x := by unfold insPl; rw [if_neg o0, if_pos o1]
    rw [hk0] at hk
    rw [hi]
    have hg : gapFrom s x ≤ gapTo s x := gap_ok ((ordS_iff s).1 hk) (fun k hk hv => hp _ (mem_entsS hk hv) o1) (hx o1)
    refine ⟨fun h => (full_ins hxr hk hg).1 (all_ents h), fun h => ?_⟩
    obtain ⟨W, e1, e2, e3⟩ := insC_good hR hxr hk hg fun hall => h (ents_all hall)
    refine ⟨W, e1, e2, ⟨fun m hm => ?_, ?_, e3.perm⟩⟩
    · rw [hk0]; exact e3.pre m hm
    · rw [hk0]; exact e3.kept
def laidR (order : Int) : List Slt → List Ent → Option (List Slt)
  | s, [] => some s
  | s, x :: xs => if (insPl order s x).2 = 0 then laidR order (applyW s (insPl order s x).1) xs else none
theorem entsS_zero (n : Nat) : entsS (List.replicate n zeroS) = [] := by
  unfold entsS
  rw [List.filter_replicate, if_neg (by decide)]
  rfl
def sigma (n k : Nat) : Nat := if n % 7 = 0 then k else (7 * k + 3) % n
def seqE (es : List Ent) : List Ent := (List.range es.length).map fun k => nth es (sigma es.length k)
theorem sigma_perm : ∀ n : Fin 11, ((List.range n.val).map (sigma n.val)).Perm (List.range n.val) := by decide
theorem seqE_perm {es : List Ent} (h : es.length ≤ 10) : (seqE es).Perm es := by
  have h1 := (sigma_perm ⟨es.length, by omega⟩).map (nth es)
  rw [List.map_map] at h1
  have h2 : (List.range es.length).map (nth es) = es := by
    apply List.ext_getElem
    · simp
    · intro i h3 h4
      simp only [List.getElem_map, List.getElem_range]
      exact nth_at _ h4
  rw [h2] at h1
  exact h1
theorem seqE_length (es : List Ent) : (seqE es).length = es.length := by unfold seqE; simp
end Go.Proofs.YtjmnnkhdadoehaaGreat

/- bank.May, bank.Apply, bank.Tell. -/
namespace Go.Proofs.YtjmnnkhdadoehaaGreat
set_option linter.unusedSimpArgs false
set_option linter.unusedVariables false
open Go Go.RowKit Go.Shelf
def HoldS (h : Slt → Bool) (As : List AV) (res : AV) : Prop := ∃ s : Slt, As = [.val (.agg #[.bool s.valid, .int .u64 s.e.w.v.x, .int .u64 s.e.w.v.y, .int .u64 s.e.w.m.x, .int .u64 s.e.w.m.y, .int .i64 s.e.len, .int .i64 s.e.act])] ∧ res = .val (.bool (h s))
attribute [local irreducible] OpH OpT LT CT HT Good
theorem arm44_1s {p : Prop} (h : p := by first | exact fm0 | exact fm29 | exact fm20 | exact fm50 | exact fm2 | exact fm53 | exact fm6 | exact fm54 | exact fm55 | exact OpH.fieldC (s := 50) (f := 1) (off := 1) rfl (by kernel_rfl) rfl | exact OpH.fieldB (s := 50) (f := 1) (off := 1) rfl (by kernel_rfl) rfl | exact fm65 | exact build_48_  | exact fm10 | exact OpH.bin rfl rfl (pb_of (pb_agg eqg_48 (eql_48 _ _ _ _ _ _ _ _ _ _ _ _ _ _)) (same_t (by first | rfl | assumption))) | exact OpH.bin rfl rfl (pb_of (pb_agg eqg_48 (eql_48 _ _ _ _ _ _ _ _ _ _ _ _ _ _)) (same_f (by assumption))) | exact OpH.bin rfl rfl (pb_agg eqg_48 (eql_48 _ _ _ _ _ _ _ _ _ _ _ _ _ _)) | exact fm27 | exact fm18 | exact fm52 | exact fm28 | exact fm19 | exact fm63 | exact fm12 | fail) : p := h
theorem stpPlnS_1 {G G' : Prop} (h' : G') (h : Hidd G' → G := by (first | (intro h; (first | (refine LT.consT ?_; (first | refine T.box (e := 50) (cs := [.val _, .val _, .val _, .val _, .val _, .val _, .val _, .val _]) rfl rfl (by decide) rfl rfl ?_)) | ((first | apply LT.cons1 | (apply LT.guard1; rfl; rfl; rfl; decide)); exact arm44_1s; (try decide))); exact h.1) | fail)) : G := h ⟨h'⟩
set_option maxRecDepth 100000 in
set_option maxHeartbeats 4000000 in
theorem g_May (w : Wrt) (n : Nat) : Good Tryz.prog 44 [.val (.agg #[.int .i64 w.at_, .bool w.s.valid, .int .u64 w.s.e.w.v.x, .int .u64 w.s.e.w.v.y, .int .u64 w.s.e.w.m.x, .int .u64 w.s.e.w.m.y, .int .i64 w.s.e.len, .int .i64 w.s.e.act]), .val (.int .i64 n)] (.val (.bool (mayW w n))) := by
  obtain ⟨at_, ⟨v, ⟨⟨⟨a, b⟩, ⟨c, d⟩⟩, m, ac⟩⟩⟩ := w
  have gR : Good Tryz.prog 61 [.val (.agg #[.int .u64 (⟨⟨⟨a, b⟩, ⟨c, d⟩⟩, m, ac⟩ : Ent).w.v.x, .int .u64 (⟨⟨⟨a, b⟩, ⟨c, d⟩⟩, m, ac⟩ : Ent).w.v.y, .int .u64 (⟨⟨⟨a, b⟩, ⟨c, d⟩⟩, m, ac⟩ : Ent).w.m.x, .int .u64 (⟨⟨⟨a, b⟩, ⟨c, d⟩⟩, m, ac⟩ : Ent).w.m.y, .int .i64 (⟨⟨⟨a, b⟩, ⟨c, d⟩⟩, m, ac⟩ : Ent).len, .int .i64 (⟨⟨⟨a, b⟩, ⟨c, d⟩⟩, m, ac⟩ : Ent).act])] (.val (.bool (eRight ⟨⟨⟨a, b⟩, ⟨c, d⟩⟩, m, ac⟩))) := g_eRight _ _ _ _ _ _
  have hm : mayW ⟨at_, ⟨v, ⟨⟨⟨a, b⟩, ⟨c, d⟩⟩, m, ac⟩⟩⟩ n = (decide (0 ≤ at_) && decide (at_ < n) && (decide ((⟨v, ⟨⟨⟨a, b⟩, ⟨c, d⟩⟩, m, ac⟩⟩ : Slt) = ⟨false, ⟨⟨⟨0, 0⟩, ⟨0, 0⟩⟩, 0, 0⟩⟩) || (v && eRight ⟨⟨⟨a, b⟩, ⟨c, d⟩⟩, m, ac⟩))) := rfl
  generalize eRight ⟨⟨⟨a, b⟩, ⟨c, d⟩⟩, m, ac⟩ = er at gR hm
  generalize mayW ⟨at_, ⟨v, ⟨⟨⟨a, b⟩, ⟨c, d⟩⟩, m, ac⟩⟩⟩ n = my at hm ⊢
  refine Good.of_body (T := [(0, _), (1, _)]) Tryz.func44 rfl rfl rfl ?_
  intro K0 w0 hno
  by_cases h0 : 0 ≤ at_
  · by_cases h1 : at_ < n
    · rw [decide_eq_true h0, decide_eq_true h1, Bool.true_and, Bool.true_and] at hm
      by_cases hz : (⟨v, ⟨⟨⟨a, b⟩, ⟨c, d⟩⟩, m, ac⟩⟩ : Slt) = ⟨false, ⟨⟨⟨0, 0⟩, ⟨0, 0⟩⟩, 0, 0⟩⟩
      · rw [decide_eq_true hz, Bool.true_or] at hm
        rw [hm]
        repeat' (first | ((first | apply LT.cons1 | (apply LT.guard1; rfl; rfl; rfl; decide)); (first | exact OpH.callF Tryz.func61 rfl rfl rfl gR rfl); (try decide)) | refine stpPlnS_1 ?_ | refine stp ?_ | (refine stq ?_ ?_ <;> intro _))
        refine ⟨by first | exact .inl rfl | exact .inr rfl, _, (.cons (.tmp 4 (A := .val _) rfl (fun _ h => by cases h)) .nil), ?_, rfl⟩
        rfl
      · rw [decide_eq_false hz, Bool.false_or] at hm
        rw [hm]
        cases v with
        | false =>
          repeat' (first | ((first | apply LT.cons1 | (apply LT.guard1; rfl; rfl; rfl; decide)); (first | exact OpH.callF Tryz.func61 rfl rfl rfl gR rfl); (try decide)) | refine stpPlnS_1 ?_ | refine stp ?_ | (refine stq ?_ ?_ <;> intro _))
          refine ⟨by first | exact .inl rfl | exact .inr rfl, _, (.cons (.tmp 4 (A := .val _) rfl (fun _ h => by cases h)) .nil), ?_, rfl⟩
          rfl
        | true =>
          repeat' (first | ((first | apply LT.cons1 | (apply LT.guard1; rfl; rfl; rfl; decide)); (first | exact OpH.callF Tryz.func61 rfl rfl rfl gR rfl); (try decide)) | refine stpPlnS_1 ?_ | refine stp ?_ | (refine stq ?_ ?_ <;> intro _))
          refine ⟨by first | exact .inl rfl | exact .inr rfl, _, (.cons (.tmp 4 (A := .val _) rfl (fun _ h => by cases h)) .nil), ?_, rfl⟩
          cases er <;> rfl
    · rw [decide_eq_false h1, Bool.and_false, Bool.false_and] at hm
      rw [hm]
      repeat' (first | refine stpPlnS_1 ?_ | refine stp ?_ | (refine stq ?_ ?_ <;> intro _))
      refine ⟨by first | exact .inl rfl | exact .inr rfl, _, (.cons (.tmp 4 (A := .val _) rfl (fun _ h => by cases h)) .nil), ?_, rfl⟩
      rfl
  · rw [decide_eq_false h0, Bool.false_and, Bool.false_and] at hm
    rw [hm]
    repeat' (first | refine stpPlnS_1 ?_ | refine stp ?_ | (refine stq ?_ ?_ <;> intro _))
    refine ⟨by first | exact .inl rfl | exact .inr rfl, _, (.cons (.tmp 4 (A := .val _) rfl (fun _ h => by cases h)) .nil), ?_, rfl⟩
    rfl
theorem arm15_1s {p : Prop} (h : p := by first | exact fm0 | exact fm53 | exact fm46 | exact OpH.lenA (t := 37) rfl rfl (by kernel_rfl) (List.length_map _) | exact OpH.lenA (t := 37) rfl rfl (by kernel_rfl) rfl | exact fm6 | exact OpH.indexS (t := 37) (k := 8) rfl slP rfl rfl (by kernel_rfl) (map_at bd) rfl | exact OpH.indexA (t := 37) (k := 8) rfl rfl rfl rfl (by kernel_rfl) bd | exact fm66 | exact OpH.loadA (t := 50) (vs := [_, _, _, _, _, _, _, _]) rfl rfl rfl (map_at bd) (by kernel_rfl) rfl rfl | exact fm45 | exact OpH.lenA (t := 30) rfl rfl (by kernel_rfl) (List.length_map _) | exact OpH.lenA (t := 30) rfl rfl (by kernel_rfl) rfl | exact fm29 | exact fm20 | exact OpH.fieldA (s := 50) (f := 0) (off := 0) rfl (by kernel_rfl) rfl | exact fm50 | exact fm48 | exact OpH.fieldC (s := 50) (f := 1) (off := 1) rfl (by kernel_rfl) rfl | exact OpH.fieldB (s := 50) (f := 1) (off := 1) rfl (by kernel_rfl) rfl | exact OpH.fieldA (s := 50) (f := 1) (off := 1) rfl (by kernel_rfl) rfl | exact fm65 | exact OpH.loadA (t := 48) (vs := [_, _, _, _, _, _, _]) rfl rfl rfl (map_at bd) (by kernel_rfl) rfl rfl | exact fm40 | exact OpH.indexA (t := 30) (k := 7) rfl rfl rfl rfl (by kernel_rfl) bd | exact fm4 | fail) : p := h
theorem stpPlnS_2 {G G' : Prop} (h' : G') (h : Hidd G' → G := by (first | (intro h; (first | (refine LT.consT ?_; (first | refine T.alloc (e := 50) (z := .agg #[.int .i64 0, .bool false, .int .u64 0, .int .u64 0, .int .u64 0, .int .u64 0, .int .i64 0, .int .i64 0]) (cs := [.val (.int .i64 0), .val (.bool false), .val (.int .u64 0), .val (.int .u64 0), .val (.int .u64 0), .val (.int .u64 0), .val (.int .i64 0), .val (.int .i64 0)]) (by kernel_rfl) rfl (by decide) rfl rfl ?_ | refine T.storeA (t := 50) rfl rfl rfl rfl (map_at bd) (by kernel_rfl) (by kernel_rfl) (Nat.le_of_ble_eq_true (by kernel_rfl)) rfl rfl rfl ?_ | refine T.store (t := 50) rfl rfl rfl (by kernel_rfl) (by kernel_rfl) (Nat.le_of_ble_eq_true (by kernel_rfl)) rfl rfl ?_ | refine T.storeA (t := 48) rfl rfl rfl rfl (map_at bd) (by kernel_rfl) (by kernel_rfl) (Nat.le_of_ble_eq_true (by kernel_rfl)) rfl rfl rfl ?_ | refine T.store (t := 48) rfl rfl rfl (by kernel_rfl) (by kernel_rfl) (Nat.le_of_ble_eq_true (by kernel_rfl)) rfl rfl ?_)) | (apply LT.cons1; exact arm15_1s; (try decide))); exact h.1) | fail)) : G := h ⟨h'⟩
set_option maxRecDepth 100000 in
set_option maxHeartbeats 4000000 in
theorem g_Apply (l : List Slt) (ws : List Wrt) (hl : l.length ≤ 60000) (hw : ws.length ≤ 65536) : Good Tryz.prog 15 [.sl 7 (l.map encS), .sl 8 (ws.map encX)] (.sl 7 ((applyW l ws).map encS)) := by
  have gC := g_CloneS l (by omega)
  refine Good.of_body (T := [(0, _), (1, _)]) Tryz.func15 rfl rfl rfl ?_
  intro K0 w0 hno
  repeat' (first | (refine LT.consT ?_; refine T.callArrL 1000 Tryz.func43 rfl rfl rfl gC (by decide) rfl ?_) | refine stpPlnS_2 ?_ | refine stp ?_ | (refine stq ?_ ?_ <;> intro _))
  refine CT.loopX (fun q : Nat × List Slt => (⟨[(5, .arow 1000), (10, .sl 8 (ws.map encX)), (11, .val (.int .i64 ws.length)), (12, .val (.int .i64 q.1))], [], [(1000, ⟨48, 7, q.2.map encS⟩)]⟩ : St))
    (fun q => q.1 ≤ ws.length ∧ q.2 = applyW l (ws.take q.1)) (fun q => ws.length - q.1) (0, l) ?_ ⟨Nat.zero_le _, by rw [List.take_zero]; rfl⟩ ?_
  · exact subT
  rintro ⟨i, xs⟩ ⟨hi, hx⟩
  dsimp only at hi hx ⊢
  have hxl : xs.length = l.length := by rw [hx, applyW_len]
  by_cases hlt : i < ws.length
  · have hst := applyW_take (l := l) hlt
    rw [← hx] at hst
    obtain ⟨⟨at_, s⟩, hwi⟩ : ∃ w, ws[i] = w := ⟨_, rfl⟩
    have hat : (ws.map encX)[i]? = some (encX ⟨at_, s⟩) := by rw [List.getElem?_map, List.getElem?_eq_getElem hlt, hwi]; rfl
    have gM := g_May ⟨at_, s⟩ xs.length
    rw [hwi] at hst
    unfold app1 at hst
    have hmb : mayW ⟨at_, s⟩ xs.length = true → 0 ≤ at_ ∧ at_ < xs.length := fun h => by
      unfold mayW at h
      rw [Bool.and_eq_true, Bool.and_eq_true, decide_eq_true_eq, decide_eq_true_eq] at h
      exact h.1
    generalize mayW ⟨at_, s⟩ xs.length = my at gM hst hmb
    cases my with
    | true =>
      obtain ⟨m0, m1⟩ := hmb rfl
      obtain ⟨j, rfl⟩ : ∃ j : Nat, at_ = j := ⟨at_.toNat, by omega⟩
      have hj : j < xs.length := by omega
      rw [if_pos rfl, Int.toNat_natCast] at hst
      repeat' (first | (apply LT.cons1; (first | exact OpH.callF Tryz.func44 rfl rfl rfl gM rfl | exact OpH.indexS (t := 37) (k := 8) (j := i) rfl slP rfl rfl (by kernel_rfl) hat rfl | exact OpH.indexA (t := 30) (k := 7) (j := j) rfl rfl rfl rfl (by kernel_rfl) (by rw [List.length_map]; exact hj)); (try decide)) | refine stpPlnS_2 ?_ | refine stp ?_ | (refine stq ?_ ?_ <;> intro _))
      refine ⟨(i + 1, xs.set j s), ⟨by dsimp only; omega, hst.symm⟩, by dsimp only; omega, ?_⟩
      exact subT
    | false =>
      rw [if_neg (by decide)] at hst
      repeat' (first | (apply LT.cons1; (first | exact OpH.callF Tryz.func44 rfl rfl rfl gM rfl | exact OpH.indexS (t := 37) (k := 8) (j := i) rfl slP rfl rfl (by kernel_rfl) hat rfl); (try decide)) | refine stpPlnS_2 ?_ | refine stp ?_ | (refine stq ?_ ?_ <;> intro _))
      refine ⟨(i + 1, xs), ⟨by dsimp only; omega, hst.symm⟩, by dsimp only; omega, ?_⟩
      exact subT
  · obtain rfl : i = ws.length := by omega
    rw [List.take_length] at hx
    rw [← hx]
    repeat' (first | (refine CT.froz hno.1 1000 rfl rfl ?_; refine CT.sub (S' := ⟨[(4, .sl 7 (xs.map encS))], [], []⟩) ?_ (CT.ret ?_)) | refine stpPlnS_2 ?_ | refine stp ?_ | (refine stq ?_ ?_ <;> intro _))
    · exact subT
    · refine ⟨by first | exact .inl rfl | exact .inr rfl, _, (.cons (.tmp 4 (A := .sl _ _) rfl (fun _ h => by cases h)) .nil), ?_, rfl⟩
      rfl
theorem arm71_1s {p : Prop} (h : p := by first | exact fm0 | exact fm53 | exact fm45 | exact fm6 | exact fm40 | exact fm65 | exact fm4 | fail) : p := h
set_option maxRecDepth 100000 in
set_option maxHeartbeats 4000000 in
theorem g_IndexS (xs : List Slt) (h : Slt → Bool) (hl : xs.length ≤ 65536) : Good Tryz.prog 71 [.sl 7 (xs.map encS), .pr (FnIs Tryz.prog (HoldS h))] (.val (.int .i64 (idxS xs h))) := by
  refine Good.of_body (T := [(0, _), (1, _)]) Tryz.func71 rfl rfl rfl ?_
  intro K0 w0 hno
  repeat' (first | (apply LT.cons1; exact arm71_1s; (try decide)) | refine stp ?_ | (refine stq ?_ ?_ <;> intro _))
  refine CT.loopX (fun k : Nat => (⟨[(0, .sl 7 (xs.map encS)), (1, .pr (FnIs Tryz.prog (HoldS h))), (7, .val (.int .i64 xs.length)), (8, .val (.int .i64 k))], [], []⟩ : St))
    (fun k => k ≤ xs.length ∧ ∀ j, j < k → h (nth xs j) = false) (fun k => xs.length - k) 0 ?_ ⟨by omega, fun j h => by omega⟩ ?_
  · exact subT
  rintro k ⟨hk, hc⟩
  by_cases hlt : k < xs.length
  · obtain ⟨s, hs⟩ : ∃ s, xs[k] = s := ⟨_, rfl⟩
    have hat := slot_at hlt hs
    have hn := nth_is hlt hs
    cases hh : h s with
    | false =>
      repeat' (first | (apply LT.cons1; (first | exact OpH.indexS (t := 30) (k := 7) (j := k) rfl slP rfl rfl (by kernel_rfl) hat rfl | exact OpH.callP (res := .val (.bool false)) rfl rfl ⟨s, rfl, by rw [hh]⟩ rfl); (try decide)) | (apply LT.cons1; exact arm71_1s; (try decide)) | refine stp ?_ | (refine stq ?_ ?_ <;> intro _))
      refine ⟨k + 1, ⟨by omega, fun j hj => ?_⟩, by omega, ?_⟩
      · by_cases ej : j = k
        · subst ej; rw [hn]; exact hh
        · exact hc j (by omega)
      · exact subT
    | true =>
      have hr : idxS xs h = k := idxS_at hlt (by rw [hn]; exact hh) hc
      repeat' (first | (apply LT.cons1; (first | exact OpH.indexS (t := 30) (k := 7) (j := k) rfl slP rfl rfl (by kernel_rfl) hat rfl | exact OpH.callP (res := .val (.bool true)) rfl rfl ⟨s, rfl, by rw [hh]⟩ rfl); (try decide)) | (apply LT.cons1; exact arm71_1s; (try decide)) | refine stp ?_ | (refine stq ?_ ?_ <;> intro _))
      refine ⟨by first | exact .inl rfl | exact .inr rfl, _, (.cons (.tmp 4 (A := .val _) rfl (fun _ h => by cases h)) .nil), ?_, rfl⟩
      rw [hr]; rfl
  · obtain rfl : k = xs.length := by omega
    have hr : idxS xs h = -1 := idxS_none hc
    repeat' (first | (apply LT.cons1; exact arm71_1s; (try decide)) | refine stp ?_ | (refine stq ?_ ?_ <;> intro _))
    refine ⟨by first | exact .inl rfl | exact .inr rfl, _, (.cons (.tmp 4 (A := .val _) rfl (fun _ h => by cases h)) .nil), ?_, rfl⟩
    rw [hr]; rfl
theorem arm72_1s {p : Prop} (h : p := by first | exact fm0 | exact fm27 | exact fm18 | exact fm52 | exact fm53 | exact fm28 | exact fm19 | exact OpH.fieldC (s := 46) (f := 0) (off := 0) rfl (by kernel_rfl) rfl | exact OpH.fieldB (s := 46) (f := 0) (off := 0) rfl (by kernel_rfl) rfl | exact fm61 | exact fm58 | exact OpH.callF Tryz.func73 rfl rfl rfl (g_wMatch _ _ _ _ _ _) rfl | exact fm54 | exact fm55 | fail) : p := h
theorem stpPlnS_3 {G G' : Prop} (h' : G') (h : Hidd G' → G := by (first | (intro h; (first | (refine LT.consT ?_; (first | refine T.box (e := 48) (cs := [.val _, .val _, .val _, .val _, .val _, .val _, .val _]) rfl rfl (by decide) rfl rfl ?_)) | ((first | apply LT.cons1 | (apply LT.guard1; rfl; rfl; rfl; decide)); exact arm72_1s; (try decide))); exact h.1) | fail)) : G := h ⟨h'⟩
set_option maxRecDepth 100000 in
set_option maxHeartbeats 2000000 in
theorem g_found1 (a : A2) (s : Slt) : Good Tryz.prog 72 [.val (.agg #[.bool s.valid, .int .u64 s.e.w.v.x, .int .u64 s.e.w.v.y, .int .u64 s.e.w.m.x, .int .u64 s.e.w.m.y, .int .i64 s.e.len, .int .i64 s.e.act]), .cptr [.int .u64 a.x, .int .u64 a.y]] (.val (.bool (hitS a s))) := by
  have gM : Good Tryz.prog 73 [.val (.agg #[.int .u64 s.e.w.v.x, .int .u64 s.e.w.v.y, .int .u64 s.e.w.m.x, .int .u64 s.e.w.m.y]), .val (.agg #[.int .u64 a.x, .int .u64 a.y])] (.val (.bool (wMatch s.e.w a))) := g_wMatch _ _ _ _ _ _
  obtain ⟨v, e⟩ := s
  unfold hitS
  dsimp only at gM ⊢
  refine Good.of_body (T := [(0, _), (1, _)]) Tryz.func72 rfl rfl rfl ?_
  intro K0 w0 hno
  cases v with
  | false =>
    repeat' (first | ((first | apply LT.cons1 | (apply LT.guard1; rfl; rfl; rfl; decide)); (first | exact OpH.callF Tryz.func73 rfl rfl rfl gM rfl); (try decide)) | refine stpPlnS_3 ?_ | refine stp ?_ | (refine stq ?_ ?_ <;> intro _))
    refine ⟨by first | exact .inl rfl | exact .inr rfl, _, (.cons (.tmp 3 (A := .val _) rfl (fun _ h => by cases h)) .nil), ?_, rfl⟩
    rfl
  | true =>
    repeat' (first | ((first | apply LT.cons1 | (apply LT.guard1; rfl; rfl; rfl; decide)); (first | exact OpH.callF Tryz.func73 rfl rfl rfl gM rfl); (try decide)) | refine stpPlnS_3 ?_ | refine stp ?_ | (refine stq ?_ ?_ <;> intro _))
    refine ⟨by first | exact .inl rfl | exact .inr rfl, _, (.cons (.tmp 3 (A := .val _) rfl (fun _ h => by cases h)) .nil), ?_, rfl⟩
    rw [Bool.true_and]
    rfl
theorem g_IndexHit (xs : List Slt) (a : A2) (hl : xs.length ≤ 65536) : Good Tryz.prog 71 [.sl 7 (xs.map encS), .clo 72 [[.int .u64 a.x, .int .u64 a.y]]] (.val (.int .i64 (idxS xs (hitS a)))) :=
  (g_IndexS xs (hitS a) hl).args rfl fun i A A' K c hA hA' h => by
    match i with
    | 0 => injection hA with hA; injection hA' with hA'; subst hA hA'; exact h
    | 1 =>
      injection hA with hA; injection hA' with hA'; subst hA hA'
      exact fnIs_clo Tryz.func72 rfl rfl (fun As res ⟨y, e1, e2⟩ => by subst e1 e2; exact g_found1 a y) K h
    | i + 2 => simp at hA
theorem arm38_1s {p : Prop} (h : p := by first | exact fm0 | exact fm53 | exact OpH.mkfn | exact OpH.mkclo1 rfl | exact OpH.mkclo2 rfl rfl | fail) : p := h
set_option maxRecDepth 100000 in
set_option maxHeartbeats 2000000 in
theorem g_found (l : List Slt) (a : A2) (hl : l.length ≤ 65536) : Good Tryz.prog 38 [.sl 7 (l.map encS), .val (.agg #[.int .u64 a.x, .int .u64 a.y])] (.val (.int .i64 (idxS l (hitS a)))) := by
  have gI := g_IndexHit l a hl
  refine Good.of_body (T := [(0, _), (1, _)]) Tryz.func38 rfl rfl rfl ?_
  intro K0 w0 hno
  repeat' (first | (apply LT.cons1; (first | exact OpH.callBF Tryz.func71 rfl rfl rfl gI); (try decide)) | (refine LT.consT ?_; (first | refine T.box (e := 25) (cs := [.val _, .val _]) rfl rfl (by decide) rfl rfl ?_)) | (apply LT.cons1; exact arm38_1s; (try decide)) | refine stp ?_ | (refine stq ?_ ?_ <;> intro _))
  refine ⟨by first | exact .inl rfl | exact .inr rfl, _, (.cons (.tmp 4 (A := .val _) rfl (fun _ h => by cases h)) .nil), ?_, rfl⟩
  rfl
theorem arm10_1s {p : Prop} (h : p := by first | exact fm0 | exact fm53 | exact fm58 | exact fm6 | exact fm40 | exact fm28 | exact fm19 | exact fm26 | exact fm17 | exact fm50 | fail) : p := h
theorem stpPlnS_4 {G G' : Prop} (h' : G') (h : Hidd G' → G := by (first | (intro h; (first | (refine LT.consT ?_; (first | refine T.box (e := 25) (cs := [.val _, .val _]) rfl rfl (by decide) rfl rfl ?_)) | (apply LT.cons1; exact arm10_1s; (try decide))); exact h.1) | fail)) : G := h ⟨h'⟩
set_option maxRecDepth 100000 in
set_option maxHeartbeats 2000000 in
theorem g_Tell (l : List Slt) (a : A2) (hl : l.length ≤ 65536) : Good Tryz.prog 10 [.sl 7 (l.map encS), .val (.agg #[.int .u64 a.x, .int .u64 a.y])] (.val (.int .i64 (tellS l a))) := by
  have gF := g_found l a hl
  have ht : tellS l a = if idxS l (hitS a) < 0 then 0 else (nth l (idxS l (hitS a)).toNat).e.act := rfl
  have hc := idxS_cases l (hitS a)
  generalize idxS l (hitS a) = i at gF ht hc
  generalize tellS l a = t at ht ⊢
  refine Good.of_body (T := [(0, _), (1, _)]) Tryz.func10 rfl rfl rfl ?_
  intro K0 w0 hno
  rcases hc with ⟨rfl, _⟩ | ⟨k, hk, rfl, _⟩
  · rw [if_pos (by decide)] at ht
    subst ht
    repeat' (first | (apply LT.cons1; (first | exact OpH.callF Tryz.func38 rfl rfl rfl gF rfl); (try decide)) | refine stpPlnS_4 ?_ | refine stp ?_ | (refine stq ?_ ?_ <;> intro _))
    refine ⟨by first | exact .inl rfl | exact .inr rfl, _, (.cons (.tmp 4 (A := .val _) rfl (fun _ h => by cases h)) .nil), ?_, rfl⟩
    rfl
  · obtain ⟨s, hs⟩ : ∃ s, l[k] = s := ⟨_, rfl⟩
    have hat := slot_at hk hs
    rw [if_neg (by omega), Int.toNat_natCast, nth_is hk hs] at ht
    subst ht
    repeat' (first | (apply LT.cons1; (first | exact OpH.callF Tryz.func38 rfl rfl rfl gF rfl | exact OpH.indexS (t := 30) (k := 7) (j := k) rfl slP rfl rfl (by kernel_rfl) hat rfl); (try decide)) | refine stpPlnS_4 ?_ | refine stp ?_ | (refine stq ?_ ?_ <;> intro _))
    refine ⟨by first | exact .inl rfl | exact .inr rfl, _, (.cons (.tmp 4 (A := .val _) rfl (fun _ h => by cases h)) .nil), ?_, rfl⟩
    rfl
end Go.Proofs.YtjmnnkhdadoehaaGreat

/- law14: awake; PlanOne, PlanInserts: the walks. -/
namespace Go.Proofs.YtjmnnkhdadoehaaGreat
set_option linter.unusedSimpArgs false
set_option linter.unusedVariables false
open Go Go.RowKit Go.Shelf
def aw14X : Ent := eOf ⟨⟨0, 0⟩, 0⟩ 1
def aw14L : List Slt := [zeroS, ⟨true, aw14X⟩, ⟨true, aw14X⟩]
theorem aw14_one : onePl 1 aw14L ⟨2, aw14X⟩ = ([⟨1, zeroS⟩, ⟨2, zeroS⟩], 0) := by decide +kernel
theorem aw14_twins : twinsL aw14L = [⟨2, zeroS⟩] := by decide +kernel
theorem aw14_kept : keptPl 0 aw14L = true := by decide +kernel
theorem onePl_ins (order : Int) (l : List Slt) (x : Ent) : onePl order l ⟨0, x⟩ = insPl order l x := by
  unfold onePl
  by_cases h : ordPl order = false ∨ eRight x = false
  · rw [if_pos h]
    unfold insPl
    rcases h with h | h
    · unfold ordPl at h
      rw [Bool.or_eq_false_iff, decide_eq_false_iff_not, decide_eq_false_iff_not] at h
      rw [if_neg h.1, if_neg h.2]
    · split
      · unfold insP; rw [if_pos h]
      · split
        · unfold insC; rw [if_pos h]
        · rfl
  · rw [if_neg h, if_pos rfl]
attribute [local irreducible] OpH OpT LT CT HT Good
theorem arm7_1 {p : Prop} (h : p := by first | exact fm0 | exact build_65_  | exact OpH.build (t := 65) (cells := #[_, _, _]) (by kernel_rfl) rfl | exact OpH.callF Tryz.func30 rfl rfl rfl (g_eOf _ _ _ _) rfl | exact build_48_  | exact fm10 | exact fm63 | exact build_48_0_1 rfl rfl | exact lit_30_3 rfl rfl rfl | exact fm53 | exact build_82_0_1 rfl rfl | exact OpH.build (t := 82) (cells := #[_, _, _, _, _, _, _]) (by kernel_rfl) rfl | exact fm15 | exact fm1 | exact fm46 | exact fm54 | exact fm55 | exact OpH.indexS (t := 37) (k := 8) (j := 0) rfl slP rfl rfl (by kernel_rfl) (map_at bd) rfl | exact fm66 | exact build_50_0 rfl | exact fm11 | exact OpH.bin rfl rfl (pb_of (pb_agg eqg_50 (eql_50 _ _ _ _ _ _ _ _ _ _ _ _ _ _ _ _)) (same_t (by first | rfl | assumption))) | exact OpH.bin rfl rfl (pb_of (pb_agg eqg_50 (eql_50 _ _ _ _ _ _ _ _ _ _ _ _ _ _ _ _)) (same_f (by assumption))) | exact OpH.bin rfl rfl (pb_agg eqg_50 (eql_50 _ _ _ _ _ _ _ _ _ _ _ _ _ _ _ _)) | exact OpH.indexS (t := 37) (k := 8) (j := 1) rfl slP rfl rfl (by kernel_rfl) (map_at bd) rfl | exact fm29 | exact fm20 | exact fm50 | fail) : p := h
set_option maxRecDepth 100000 in
set_option maxHeartbeats 4000000 in
theorem g_awake14 : Good Tryz.prog 7 [] (.val (.bool true)) := by
  have gX : Good Tryz.prog 30 [.val (.agg #[.int .u64 0, .int .u64 0, .int .i64 0]), .val (.int .i64 1)] (.val (.agg #[.int .u64 aw14X.w.v.x, .int .u64 aw14X.w.v.y, .int .u64 aw14X.w.m.x, .int .u64 aw14X.w.m.y, .int .i64 aw14X.len, .int .i64 aw14X.act])) := g_eOf 0 0 0 1
  have gP := g_One 1 aw14L ⟨2, aw14X⟩ (by decide)
  rw [aw14_one] at gP
  have gT := g_Twins aw14L (by decide)
  rw [aw14_twins] at gT
  have gK := g_plnKept 0 aw14L (by decide)
  rw [aw14_kept] at gK
  have gO := g_Order 1
  rw [show ordPl 1 = true from rfl] at gO
  unfold aw14L at gP gT gK
  generalize aw14X = x at *
  refine Good.of_body (T := []) Tryz.func7 rfl rfl rfl ?_
  intro K0 w0 hno
  repeat' (first | (refine LT.consT ?_; refine T.callRow Tryz.func32 rfl rfl rfl gT (by decide) rfl ?_) | ((first | apply LT.cons1 | (apply LT.guard1; rfl; rfl; rfl; decide)); (first | exact OpH.callF Tryz.func30 rfl rfl rfl gX rfl | exact OpH.callF Tryz.func31 rfl rfl rfl gP rfl | exact OpH.callF Tryz.func12 rfl rfl rfl gO rfl | exact OpH.callF Tryz.func16 rfl rfl rfl gK rfl); (try decide)) | (refine LT.consT ?_; (first | refine T.alloc (e := 46) (z := .agg #[.int .u64 0, .int .u64 0, .int .u64 0, .int .u64 0, .int .i64 0, .int .i64 0]) (cs := [.val (.int .u64 0), .val (.int .u64 0), .val (.int .u64 0), .val (.int .u64 0), .val (.int .i64 0), .val (.int .i64 0)]) (by kernel_rfl) rfl (by decide) rfl rfl ?_ | refine T.store (t := 46) rfl rfl rfl (by kernel_rfl) (by kernel_rfl) (Nat.le_of_ble_eq_true (by kernel_rfl)) rfl rfl ?_)) | ((first | apply LT.cons1 | (apply LT.guard1; rfl; rfl; rfl; decide)); exact arm7_1; (try decide)) | refine stp ?_ | (refine stq ?_ ?_ <;> intro _))
  refine ⟨by first | exact .inl rfl | exact .inr rfl, _, (.cons (.tmp 0 (A := .val _) rfl (fun _ h => by cases h)) .nil), ?_, rfl⟩
  rfl
end Go.Proofs.YtjmnnkhdadoehaaGreat

/- PlanSets, PlanTwins: the walks. -/
namespace Go.Proofs.YtjmnnkhdadoehaaGreat
set_option linter.unusedSimpArgs false
set_option linter.unusedVariables false
open Go Go.RowKit Go.Shelf
theorem onePl_set {order : Int} {l : List Slt} {x : Ent} (ho : ordPl order = true) (hr : eRight x = true) : onePl order l ⟨1, x⟩ = (eachT l x ⟨true, x⟩ (fun y => decide (y.act ≠ x.act)) l.length, 0) := by
  unfold onePl
  dsimp only
  rw [if_neg (by rw [ho, hr]; decide), if_neg (by decide), if_pos rfl]
  rfl
theorem onePl_drop {order : Int} {l : List Slt} {x : Ent} (ho : ordPl order = true) (hr : eRight x = true) : onePl order l ⟨2, x⟩ = (eachT l x zeroS (fun _ => true) l.length, 0) := by
  unfold onePl
  dsimp only
  rw [if_neg (by rw [ho, hr]; decide), if_neg (by decide), if_neg (by decide), if_pos rfl]
  rfl
attribute [local irreducible] OpH OpT LT CT HT Good
end Go.Proofs.YtjmnnkhdadoehaaGreat
