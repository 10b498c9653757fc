/- Slots behind writes; what they tell; twins: in plain Lean. -/
import Derived.Test.YtjmnnkhdadoehaaQPlnT
import Derived.Test.YtjmnnkhdadoehaaQCaoQ
namespace Go.Proofs.Ytjmnnkhdadoehaa
set_option linter.unusedSimpArgs false
set_option linter.unusedVariables false
open Go
def mayW (w : Wrt) (n : Nat) : Bool := decide (0 ≤ w.at_) && decide (w.at_ < n) && (decide (w.s = zeroS) || (w.s.valid && eRight w.s.e))
def app1 (l : List Slt) (w : Wrt) : List Slt := if mayW w l.length = true then l.set w.at_.toNat w.s else l
def applyW (l : List Slt) (ws : List Wrt) : List Slt := ws.foldl app1 l
theorem app1_len (l : List Slt) (w : Wrt) : (app1 l w).length = l.length := by
  unfold app1
  split
  · rw [List.length_set]
  · rfl
theorem applyW_len : ∀ (ws : List Wrt) (l : List Slt), (applyW l ws).length = l.length
  | [], _ => rfl
  | w :: ws, l => by
    show (applyW (app1 l w) ws).length = l.length
    rw [applyW_len ws, app1_len]
theorem applyW_take {l : List Slt} {ws : List Wrt} {k : Nat} (h : k < ws.length) : applyW l (ws.take (k + 1)) = app1 (applyW l (ws.take k)) ws[k] := by
  unfold applyW
  rw [List.take_succ_eq_append_getElem h, List.foldl_append]
  rfl
theorem applyW_app (l : List Slt) (xs ys : List Wrt) : applyW l (xs ++ ys) = applyW (applyW l xs) ys := by
  unfold applyW
  rw [List.foldl_append]
theorem nth_setS {l : List Slt} {i k : Nat} {s : Slt} (hi : i < l.length) : nth (l.set i s) k = if k = i then s else nth l k := by
  unfold nth
  rw [List.getD_eq_getElem?_getD, List.getElem?_set, List.getD_eq_getElem?_getD]
  by_cases e : k = i
  · subst e; rw [if_pos rfl, if_pos rfl, if_pos hi]; rfl
  · rw [if_neg (fun h => e h.symm), if_neg e]
def eachC (l : List Slt) (x : Ent) (h : Ent → Bool) (i : Nat) : Bool := (nth l i).valid && eAlike (nth l i).e x && h (nth l i).e
theorem eachC_iff {l : List Slt} {x : Ent} {h : Ent → Bool} {i : Nat} : ((nth l i).valid = true ∧ eAlike (nth l i).e x = true ∧ h (nth l i).e = true) ↔ eachC l x h i = true := by
  unfold eachC
  rw [Bool.and_eq_true, Bool.and_eq_true, and_assoc]
theorem apply_each {l : List Slt} {x : Ent} {to : Slt} {h : Ent → Bool} (hto : to = zeroS ∨ (to.valid = true ∧ eRight to.e = true)) : ∀ k, k ≤ l.length → ∀ i, nth (applyW l (eachT l x to h k)) i = if i < k ∧ eachC l x h i = true then to else nth l i
  | 0, _, i => by
    rw [if_neg (by omega)]; rfl
  | k + 1, hk, i => by
    have ih := apply_each (l := l) hto k (by omega) (x := x) (h := h)
    simp only [eachT]
    rw [applyW_app]
    have hlen := applyW_len (eachT l x to h k) l
    by_cases c : eachC l x h k = true
    · rw [if_pos (eachC_iff.2 c)]
      show nth (app1 _ _) i = _
      unfold app1
      rw [if_pos (by
        unfold mayW
        rw [Bool.and_eq_true, Bool.and_eq_true]
        refine ⟨⟨decide_eq_true (by dsimp only; omega), decide_eq_true (by dsimp only; omega)⟩, ?_⟩
        rw [Bool.or_eq_true, Bool.and_eq_true]
        rcases hto with h | h
        · exact .inl (decide_eq_true h)
        · exact .inr h), Int.toNat_natCast, nth_setS (l := applyW l (eachT l x to h k)) (by omega)]
      by_cases e : i = k
      · subst e; rw [if_pos rfl, if_pos ⟨by omega, c⟩]
      · rw [if_neg e, ih i]
        by_cases c2 : i < k ∧ eachC l x h i = true
        · rw [if_pos c2, if_pos ⟨by omega, c2.2⟩]
        · rw [if_neg c2, if_neg (fun q => c2 ⟨by omega, q.2⟩)]
    · rw [if_neg (fun q => c (eachC_iff.1 q))]
      show nth (applyW l (eachT l x to h k)) i = _
      rw [ih i]
      by_cases c2 : i < k ∧ eachC l x h i = true
      · rw [if_pos c2, if_pos ⟨by omega, c2.2⟩]
      · rw [if_neg c2, if_neg (fun q => c2 ⟨by
          by_cases e : i = k
          · subst e; exact absurd q.2 c
          · omega, q.2⟩)]
/-! ### What slots tell -/
def idxS (xs : List Slt) (h : Slt → Bool) : Int := if firstF (fun i => h (nth xs i)) xs.length 0 < xs.length then (firstF (fun i => h (nth xs i)) xs.length 0 : Int) else -1
def hitS (a : A2) (s : Slt) : Bool := s.valid && wMatch s.e.w a
def tellS (l : List Slt) (a : A2) : Int := if idxS l (hitS a) < 0 then 0 else (nth l (idxS l (hitS a)).toNat).e.act
theorem idxS_none {xs : List Slt} {h : Slt → Bool} (hn : ∀ k, k < xs.length → h (nth xs k) = false) : idxS xs h = -1 := by
  obtain ⟨h1, h2, h3, h4⟩ := firstF_spec (fun i => h (nth xs i)) xs.length 0
  unfold idxS
  rw [if_neg]
  intro hc
  have := h4 (by omega)
  rw [hn _ hc] at this
  cases this
theorem idxS_at {xs : List Slt} {h : Slt → Bool} {k : Nat} (hk : k < xs.length) (h1 : h (nth xs k) = true) (h2 : ∀ j, j < k → h (nth xs j) = false) : idxS xs h = k := by
  have := firstF_uniq (p := fun i => h (nth xs i)) (f := xs.length) (k := 0) (r := k) (by omega) (by omega) (fun j _ hj => h2 j hj) (fun _ => h1)
  unfold idxS
  rw [this, if_pos hk]
theorem idxS_cases (xs : List Slt) (h : Slt → Bool) : (idxS xs h = -1 ∧ ∀ k, k < xs.length → h (nth xs k) = false) ∨ ∃ k, k < xs.length ∧ idxS xs h = (k : Nat) ∧ h (nth xs k) = true ∧ ∀ j, j < k → h (nth xs j) = false := by
  obtain ⟨h1, h2, h3, h4⟩ := firstF_spec (fun i => h (nth xs i)) xs.length 0
  by_cases c : firstF (fun i => h (nth xs i)) xs.length 0 < xs.length
  · refine .inr ⟨_, c, ?_, h4 (by omega), fun j hj => h3 j (Nat.zero_le _) hj⟩
    unfold idxS; rw [if_pos c]
  · refine .inl ⟨?_, fun k hk => h3 k (Nat.zero_le _) (by omega)⟩
    unfold idxS; rw [if_neg c]
theorem tellS_same {l l' : List Slt} {a : A2} (hlen : l'.length = l.length) (hsub : ∀ k, k < l.length → hitS a (nth l k) = false → hitS a (nth l' k) = false)
    (hfst : ∀ k, k < l.length → hitS a (nth l k) = true → (∀ j, j < k → hitS a (nth l j) = false) → nth l' k = nth l k) : tellS l' a = tellS l a := by
  rcases idxS_cases l (hitS a) with ⟨h1, h2⟩ | ⟨k, hk, h1, h2, h3⟩
  · have : idxS l' (hitS a) = -1 := idxS_none fun k hk => hsub k (by omega) (h2 k (by omega))
    unfold tellS
    rw [this, h1]
    rfl
  · have e := hfst k hk h2 h3
    have : idxS l' (hitS a) = k := idxS_at (by omega) (by rw [e]; exact h2) fun j hj => hsub j (by omega) (h3 j hj)
    unfold tellS
    rw [this, h1, Int.toNat_natCast, e]
/-! ### Twins -/
theorem alike_w {x y : Ent} (h : eAlike x y = true) : x.w = y.w ∧ x.len = y.len := by
  unfold eAlike same at h
  rw [Bool.and_eq_true, decide_eq_true_eq, beq_iff_eq] at h
  exact h
theorem apply_twins {l : List Slt} : ∀ k, k ≤ l.length → ∀ i, nth (applyW l (twinsT l k)) i = if i < k ∧ hasTwin l i = true then zeroS else nth l i
  | 0, _, i => by
    rw [if_neg (by omega)]; rfl
  | k + 1, hk, i => by
    have ih := apply_twins k (by omega) (l := l)
    simp only [twinsT]
    rw [applyW_app]
    have hlen := applyW_len (twinsT l k) l
    by_cases c : hasTwin l k = true
    · rw [if_pos c]
      show nth (app1 _ _) i = _
      unfold app1
      rw [if_pos (by
        unfold mayW
        rw [Bool.and_eq_true, Bool.and_eq_true]
        refine ⟨⟨decide_eq_true (by dsimp only; omega), decide_eq_true (by dsimp only; omega)⟩, ?_⟩
        rw [Bool.or_eq_true]
        exact .inl (decide_eq_true rfl)), Int.toNat_natCast, nth_setS (l := applyW l (twinsT l k)) (by omega)]
      by_cases e : i = k
      · subst e; rw [if_pos rfl, if_pos ⟨by omega, c⟩]
      · rw [if_neg e, ih i]
        by_cases c2 : i < k ∧ hasTwin l i = true
        · rw [if_pos c2, if_pos ⟨by omega, c2.2⟩]
        · rw [if_neg c2, if_neg (fun q => c2 ⟨by omega, q.2⟩)]
    · rw [if_neg c]
      show nth (applyW l (twinsT l k)) i = _
      rw [ih i]
      by_cases c2 : i < k ∧ hasTwin l i = true
      · rw [if_pos c2, if_pos ⟨by omega, c2.2⟩]
      · rw [if_neg c2, if_neg (fun q => c2 ⟨by
          by_cases e : i = k
          · subst e; exact absurd q.2 c
          · omega, q.2⟩)]
theorem hasTwin_iff {l : List Slt} {k : Nat} : hasTwin l k = true ↔ ∃ j, j < k ∧ (nth l k).valid = true ∧ (nth l j).valid = true ∧ eAlike (nth l k).e (nth l j).e = true := by
  unfold hasTwin
  rw [List.any_eq_true]
  constructor
  · rintro ⟨j, hj, h⟩
    unfold twinAt at h
    rw [Bool.and_eq_true, Bool.and_eq_true] at h
    exact ⟨j, List.mem_range.1 hj, h.1.1, h.1.2, h.2⟩
  · rintro ⟨j, hj, h1, h2, h3⟩
    refine ⟨j, List.mem_range.2 hj, ?_⟩
    unfold twinAt
    rw [h1, h2, h3]; rfl
theorem first_alone {l : List Slt} {a : A2} {k : Nat} (h : hitS a (nth l k) = true) (hf : ∀ j, j < k → hitS a (nth l j) = false) : hasTwin l k = false := by
  cases e : hasTwin l k with
  | false => rfl
  | true =>
    obtain ⟨j, hj, h1, h2, h3⟩ := hasTwin_iff.1 e
    have := hf j hj
    unfold hitS at h this
    rw [Bool.and_eq_true] at h
    rw [h2, ← (alike_w h3).1, h.2] at this
    cases this
theorem twins_tell (l : List Slt) (a : A2) {k : Nat} (hk : k ≤ l.length) : tellS (applyW l (twinsT l k)) a = tellS l a := by
  refine tellS_same (applyW_len _ _) (fun i hi h => ?_) fun i hi h hf => ?_
  · rw [apply_twins k hk i]
    split
    · rfl
    · exact h
  · rw [apply_twins k hk i, if_neg (fun c => by rw [first_alone h hf] at c; cases c.2)]
theorem twinsT_take (l : List Slt) : ∀ k m, m ≤ (twinsT l k).length → ∃ i, i ≤ k ∧ (twinsT l k).take m = twinsT l i
  | 0, m, hm => ⟨0, Nat.le_refl _, by rw [List.take_of_length_le (by simp [twinsT])]⟩
  | k + 1, m, hm => by
    by_cases c : m ≤ (twinsT l k).length
    · obtain ⟨i, hi, e⟩ := twinsT_take l k m c
      refine ⟨i, by omega, ?_⟩
      simp only [twinsT]
      rw [List.take_append_of_le_length c, e]
    · refine ⟨k + 1, Nat.le_refl _, ?_⟩
      rw [List.take_of_length_le]
      simp only [twinsT, List.length_append] at hm ⊢
      split at hm <;> split <;> simp at * <;> omega
theorem twins_tell' (l : List Slt) (a : A2) (m : Nat) : tellS (applyW l ((twinsL l).take m)) a = tellS l a := by
  by_cases h : m ≤ (twinsL l).length
  · obtain ⟨i, hi, e⟩ := twinsT_take l l.length m h
    unfold twinsL
    rw [e]
    exact twins_tell l a hi
  · rw [List.take_of_length_le (by omega)]
    exact twins_tell l a (Nat.le_refl _)
theorem twins_none (l : List Slt) : twinsL (applyW l (twinsL l)) = [] := by
  have hlen := applyW_len (twinsL l) l
  have hn : ∀ k, k < l.length → hasTwin (applyW l (twinsL l)) k = false := fun k hk => by
    cases e : hasTwin (applyW l (twinsL l)) k with
    | false => rfl
    | true =>
      obtain ⟨j, hj, h1, h2, h3⟩ := hasTwin_iff.1 e
      unfold twinsL at h1 h2 h3
      rw [apply_twins l.length (Nat.le_refl _) k] at h1 h3
      rw [apply_twins l.length (Nat.le_refl _) j] at h2 h3
      by_cases ck : k < l.length ∧ hasTwin l k = true
      · rw [if_pos ck] at h1; cases h1
      · by_cases cj : j < l.length ∧ hasTwin l j = true
        · rw [if_pos cj] at h2; cases h2
        · rw [if_neg ck] at h1 h3
          rw [if_neg cj] at h2 h3
          exact absurd ⟨hk, hasTwin_iff.2 ⟨j, hj, h1, h2, h3⟩⟩ ck
  have : ∀ k, k ≤ l.length → twinsT (applyW l (twinsL l)) k = [] := fun k => by
    induction k with
    | zero => intro _; rfl
    | succ k ih =>
      intro hk
      simp only [twinsT]
      rw [ih (by omega), hn k (by omega)]
      rfl
  show twinsT (applyW l (twinsL l)) (applyW l (twinsL l)).length = []
  rw [hlen]
  exact this _ (Nat.le_refl _)
end Go.Proofs.Ytjmnnkhdadoehaa

/- bank.May, bank.Apply, bank.Tell. -/
namespace Go.Proofs.Ytjmnnkhdadoehaa
set_option linter.unusedSimpArgs false
set_option linter.unusedVariables false
open Go Go.RowKit Go.Shelf
def HoldS (h : Slt → Bool) (As : List AV) (res : AV) : Prop := ∃ s : Slt, As = [.val (.agg #[.bool s.valid, .int .u64 s.e.w.v.x, .int .u64 s.e.w.v.y, .int .u64 s.e.w.m.x, .int .u64 s.e.w.m.y, .int .i64 s.e.len, .int .i64 s.e.act])] ∧ res = .val (.bool (h s))
attribute [local irreducible] OpH OpT LT CT HT Good
theorem arm80_1s {p : Prop} (h : p := by first | exact OpH.assign (v := .val _) rfl | exact OpH.assign (v := .sl _ _) rfl | exact OpH.assign (v := .row _ _ _ _) rfl | exact OpH.assign (v := .full _ _) rfl | exact OpH.assign (v := .ptr _ _) rfl | exact OpH.assign (v := .cptr _) rfl | exact OpH.assign (v := .cloB _ _) rfl | exact OpH.assign (v := .clo _ _) rfl | exact OpH.assign (v := .pr _) rfl | exact OpH.assign (v := .arow _) rfl | exact OpH.assign (v := .aptr _ _ _ _) rfl | exact OpH.assign (v := .asub _ _ _ _) rfl | exact OpH.assign (v := .tup _) rfl | exact OpH.fieldC (s := 64) (f := 0) (off := 0) rfl (by kernel_rfl) rfl | exact OpH.fieldB (s := 64) (f := 0) (off := 0) rfl (by kernel_rfl) rfl | exact OpH.loadC1 (t := 3) rfl (by kernel_rfl) rfl | exact OpH.loadB1 (t := 3) rfl rfl (by kernel_rfl) rfl | exact OpH.bin rfl rfl (pb_geq_t (by omega)) | exact OpH.bin rfl rfl (pb_geq_f (by omega)) | exact OpH.bin rfl rfl (pb_geq) | exact OpH.move (v := .val _) rfl | exact OpH.move (v := .sl _ _) rfl | exact OpH.move (v := .row _ _ _ _) rfl | exact OpH.move (v := .full _ _) rfl | exact OpH.move (v := .ptr _ _) rfl | exact OpH.move (v := .cptr _) rfl | exact OpH.move (v := .cloB _ _) rfl | exact OpH.move (v := .clo _ _) rfl | exact OpH.move (v := .pr _) rfl | exact OpH.move (v := .arow _) rfl | exact OpH.move (v := .aptr _ _ _ _) rfl | exact OpH.move (v := .asub _ _ _ _) rfl | exact OpH.move (v := .tup _) rfl | exact OpH.bin rfl rfl (pb_lss_t (by omega)) | exact OpH.bin rfl rfl (pb_lss_f (by omega)) | exact OpH.bin rfl rfl (pb_lss) | exact OpH.pick (b := true) (v := .val _) rfl rfl | exact OpH.pick (b := false) (v := .val _) rfl rfl | exact OpH.pick (b := true) (v := .sl _ _) rfl rfl | exact OpH.pick (b := false) (v := .sl _ _) rfl rfl | exact OpH.pick (b := true) (v := .row _ _ _ _) rfl rfl | exact OpH.pick (b := false) (v := .row _ _ _ _) rfl rfl | exact OpH.pick (b := true) (v := .full _ _) rfl rfl | exact OpH.pick (b := false) (v := .full _ _) rfl rfl | exact OpH.pickV rfl rfl rfl | exact OpH.fieldC (s := 64) (f := 1) (off := 1) rfl (by kernel_rfl) rfl | exact OpH.fieldB (s := 64) (f := 1) (off := 1) rfl (by kernel_rfl) rfl | exact loadC7 (t := 61) rfl (by kernel_rfl) | exact loadB7 (t := 61) rfl rfl (by kernel_rfl) rfl | exact build_61_  | exact OpH.build (t := 61) (cells := #[_, _, _, _, _, _, _]) (by kernel_rfl) rfl | exact OpH.bin rfl rfl (pb_of (pb_agg eqg_61 (eql_61 _ _ _ _ _ _ _ _ _ _ _ _ _ _)) (same_t (by first | rfl | assumption))) | exact OpH.bin rfl rfl (pb_of (pb_agg eqg_61 (eql_61 _ _ _ _ _ _ _ _ _ _ _ _ _ _)) (same_f (by assumption))) | exact OpH.bin rfl rfl (pb_agg eqg_61 (eql_61 _ _ _ _ _ _ _ _ _ _ _ _ _ _)) | exact OpH.fieldC (s := 61) (f := 0) (off := 0) rfl (by kernel_rfl) rfl | exact OpH.fieldB (s := 61) (f := 0) (off := 0) rfl (by kernel_rfl) rfl | exact OpH.loadC1 (t := 4) rfl (by kernel_rfl) rfl | exact OpH.loadB1 (t := 4) rfl rfl (by kernel_rfl) rfl | exact OpH.fieldC (s := 61) (f := 1) (off := 1) rfl (by kernel_rfl) rfl | exact OpH.fieldB (s := 61) (f := 1) (off := 1) rfl (by kernel_rfl) rfl | exact loadC6 (t := 29) rfl (by kernel_rfl) | exact loadB6 (t := 29) rfl rfl (by kernel_rfl) rfl | exact OpH.callF Try.func28 rfl rfl rfl (g_eRight _ _ _ _ _ _) rfl) : p := h
set_option maxRecDepth 100000 in
set_option maxHeartbeats 4000000 in
theorem g_May (w : Wrt) (n : Nat) : Good Try.prog 80 [.val (.agg #[.int .i64 w.at_, .bool w.s.valid, .int .u64 w.s.e.w.v.x, .int .u64 w.s.e.w.v.y, .int .u64 w.s.e.w.m.x, .int .u64 w.s.e.w.m.y, .int .i64 w.s.e.len, .int .i64 w.s.e.act]), .val (.int .i64 n)] (.val (.bool (mayW w n))) := by
  obtain ⟨at_, ⟨v, ⟨⟨⟨a, b⟩, ⟨c, d⟩⟩, m, ac⟩⟩⟩ := w
  have gR : Good Try.prog 28 [.val (.agg #[.int .u64 (⟨⟨⟨a, b⟩, ⟨c, d⟩⟩, m, ac⟩ : Ent).w.v.x, .int .u64 (⟨⟨⟨a, b⟩, ⟨c, d⟩⟩, m, ac⟩ : Ent).w.v.y, .int .u64 (⟨⟨⟨a, b⟩, ⟨c, d⟩⟩, m, ac⟩ : Ent).w.m.x, .int .u64 (⟨⟨⟨a, b⟩, ⟨c, d⟩⟩, m, ac⟩ : Ent).w.m.y, .int .i64 (⟨⟨⟨a, b⟩, ⟨c, d⟩⟩, m, ac⟩ : Ent).len, .int .i64 (⟨⟨⟨a, b⟩, ⟨c, d⟩⟩, m, ac⟩ : Ent).act])] (.val (.bool (eRight ⟨⟨⟨a, b⟩, ⟨c, d⟩⟩, m, ac⟩))) := g_eRight _ _ _ _ _ _
  have hm : mayW ⟨at_, ⟨v, ⟨⟨⟨a, b⟩, ⟨c, d⟩⟩, m, ac⟩⟩⟩ n = (decide (0 ≤ at_) && decide (at_ < n) && (decide ((⟨v, ⟨⟨⟨a, b⟩, ⟨c, d⟩⟩, m, ac⟩⟩ : Slt) = ⟨false, ⟨⟨⟨0, 0⟩, ⟨0, 0⟩⟩, 0, 0⟩⟩) || (v && eRight ⟨⟨⟨a, b⟩, ⟨c, d⟩⟩, m, ac⟩))) := rfl
  generalize eRight ⟨⟨⟨a, b⟩, ⟨c, d⟩⟩, m, ac⟩ = er at gR hm
  generalize mayW ⟨at_, ⟨v, ⟨⟨⟨a, b⟩, ⟨c, d⟩⟩, m, ac⟩⟩⟩ n = my at hm ⊢
  refine Good.of_body (T := [(0, _), (1, _)]) Try.func80 rfl rfl rfl ?_
  intro K0 w0 hno
  by_cases h0 : 0 ≤ at_
  · by_cases h1 : at_ < n
    · rw [decide_eq_true h0, decide_eq_true h1, Bool.true_and, Bool.true_and] at hm
      by_cases hz : (⟨v, ⟨⟨⟨a, b⟩, ⟨c, d⟩⟩, m, ac⟩⟩ : Slt) = ⟨false, ⟨⟨⟨0, 0⟩, ⟨0, 0⟩⟩, 0, 0⟩⟩
      · rw [decide_eq_true hz, Bool.true_or] at hm
        rw [hm]
        repeat' (first | refine CT.seqR ?_ | refine CT.region ?_ | refine CT.seq1 ?_ | refine CT.block ?_ | refine CT.condT rfl ?_ | refine CT.condF rfl ?_ | refine CT.condD rfl (fun _ => ?_) (fun _ => ?_) | refine CT.condN rfl (fun _ => ?_) (fun _ => ?_) | refine CT.cond rfl (fun _ => ?_) (fun _ => ?_) | refine CT.skip ?_ | refine CT.exit ?_ | refine CT.ret ?_ | refine LT.nil ?_ | refine HT.nil1 ?_ | (refine LT.consT ?_; (first | refine T.box (e := 64) (cs := [.val _, .val _, .val _, .val _, .val _, .val _, .val _, .val _]) rfl rfl (by decide) rfl rfl ?_)) | ((first | apply LT.cons1 | (apply LT.guard1; rfl; rfl; rfl; decide)); (first | exact OpH.callF Try.func28 rfl rfl rfl gR rfl | exact arm80_1s); decide) | refine LT.skip1 rfl rfl rfl (by decide) (by decide) ?_ | refine LT.skip2 rfl rfl (by decide) (by decide) ?_ | refine LT.partD rfl rfl (fun _ => ?_) (fun _ => ?_) | refine LT.partN rfl rfl (fun _ => ?_) (fun _ => ?_) | (refine LT.part1 rfl rfl (fun h => ?_) (fun h => ?_); (fail_if_success exact absurd h (by decide)); rotate_left; (fail_if_success exact absurd h (by decide)); rotate_left))
        refine ⟨by first | exact .inl rfl | exact .inr rfl, _, (.cons (.tmp 4 (A := .val _) rfl (fun _ h => by cases h)) .nil), ?_, rfl⟩
        rfl
      · rw [decide_eq_false hz, Bool.false_or] at hm
        rw [hm]
        cases v with
        | false =>
          repeat' (first | refine CT.seqR ?_ | refine CT.region ?_ | refine CT.seq1 ?_ | refine CT.block ?_ | refine CT.condT rfl ?_ | refine CT.condF rfl ?_ | refine CT.condD rfl (fun _ => ?_) (fun _ => ?_) | refine CT.condN rfl (fun _ => ?_) (fun _ => ?_) | refine CT.cond rfl (fun _ => ?_) (fun _ => ?_) | refine CT.skip ?_ | refine CT.exit ?_ | refine CT.ret ?_ | refine LT.nil ?_ | refine HT.nil1 ?_ | (refine LT.consT ?_; (first | refine T.box (e := 64) (cs := [.val _, .val _, .val _, .val _, .val _, .val _, .val _, .val _]) rfl rfl (by decide) rfl rfl ?_)) | ((first | apply LT.cons1 | (apply LT.guard1; rfl; rfl; rfl; decide)); (first | exact OpH.callF Try.func28 rfl rfl rfl gR rfl | exact arm80_1s); decide) | refine LT.skip1 rfl rfl rfl (by decide) (by decide) ?_ | refine LT.skip2 rfl rfl (by decide) (by decide) ?_ | refine LT.partD rfl rfl (fun _ => ?_) (fun _ => ?_) | refine LT.partN rfl rfl (fun _ => ?_) (fun _ => ?_) | (refine LT.part1 rfl rfl (fun h => ?_) (fun h => ?_); (fail_if_success exact absurd h (by decide)); rotate_left; (fail_if_success exact absurd h (by decide)); rotate_left))
          refine ⟨by first | exact .inl rfl | exact .inr rfl, _, (.cons (.tmp 4 (A := .val _) rfl (fun _ h => by cases h)) .nil), ?_, rfl⟩
          rfl
        | true =>
          repeat' (first | refine CT.seqR ?_ | refine CT.region ?_ | refine CT.seq1 ?_ | refine CT.block ?_ | refine CT.condT rfl ?_ | refine CT.condF rfl ?_ | refine CT.condD rfl (fun _ => ?_) (fun _ => ?_) | refine CT.condN rfl (fun _ => ?_) (fun _ => ?_) | refine CT.cond rfl (fun _ => ?_) (fun _ => ?_) | refine CT.skip ?_ | refine CT.exit ?_ | refine CT.ret ?_ | refine LT.nil ?_ | refine HT.nil1 ?_ | (refine LT.consT ?_; (first | refine T.box (e := 64) (cs := [.val _, .val _, .val _, .val _, .val _, .val _, .val _, .val _]) rfl rfl (by decide) rfl rfl ?_)) | ((first | apply LT.cons1 | (apply LT.guard1; rfl; rfl; rfl; decide)); (first | exact OpH.callF Try.func28 rfl rfl rfl gR rfl | exact arm80_1s); decide) | refine LT.skip1 rfl rfl rfl (by decide) (by decide) ?_ | refine LT.skip2 rfl rfl (by decide) (by decide) ?_ | refine LT.partD rfl rfl (fun _ => ?_) (fun _ => ?_) | refine LT.partN rfl rfl (fun _ => ?_) (fun _ => ?_) | (refine LT.part1 rfl rfl (fun h => ?_) (fun h => ?_); (fail_if_success exact absurd h (by decide)); rotate_left; (fail_if_success exact absurd h (by decide)); rotate_left))
          refine ⟨by first | exact .inl rfl | exact .inr rfl, _, (.cons (.tmp 4 (A := .val _) rfl (fun _ h => by cases h)) .nil), ?_, rfl⟩
          cases er <;> rfl
    · rw [decide_eq_false h1, Bool.and_false, Bool.false_and] at hm
      rw [hm]
      repeat' (first | refine CT.seqR ?_ | refine CT.region ?_ | refine CT.seq1 ?_ | refine CT.block ?_ | refine CT.condT rfl ?_ | refine CT.condF rfl ?_ | refine CT.condD rfl (fun _ => ?_) (fun _ => ?_) | refine CT.condN rfl (fun _ => ?_) (fun _ => ?_) | refine CT.cond rfl (fun _ => ?_) (fun _ => ?_) | refine CT.skip ?_ | refine CT.exit ?_ | refine CT.ret ?_ | refine LT.nil ?_ | refine HT.nil1 ?_ | (refine LT.consT ?_; (first | refine T.box (e := 64) (cs := [.val _, .val _, .val _, .val _, .val _, .val _, .val _, .val _]) rfl rfl (by decide) rfl rfl ?_)) | ((first | apply LT.cons1 | (apply LT.guard1; rfl; rfl; rfl; decide)); (first | exact arm80_1s); decide) | refine LT.skip1 rfl rfl rfl (by decide) (by decide) ?_ | refine LT.skip2 rfl rfl (by decide) (by decide) ?_ | refine LT.partD rfl rfl (fun _ => ?_) (fun _ => ?_) | refine LT.partN rfl rfl (fun _ => ?_) (fun _ => ?_) | (refine LT.part1 rfl rfl (fun h => ?_) (fun h => ?_); (fail_if_success exact absurd h (by decide)); rotate_left; (fail_if_success exact absurd h (by decide)); rotate_left))
      refine ⟨by first | exact .inl rfl | exact .inr rfl, _, (.cons (.tmp 4 (A := .val _) rfl (fun _ h => by cases h)) .nil), ?_, rfl⟩
      rfl
  · rw [decide_eq_false h0, Bool.false_and, Bool.false_and] at hm
    rw [hm]
    repeat' (first | refine CT.seqR ?_ | refine CT.region ?_ | refine CT.seq1 ?_ | refine CT.block ?_ | refine CT.condT rfl ?_ | refine CT.condF rfl ?_ | refine CT.condD rfl (fun _ => ?_) (fun _ => ?_) | refine CT.condN rfl (fun _ => ?_) (fun _ => ?_) | refine CT.cond rfl (fun _ => ?_) (fun _ => ?_) | refine CT.skip ?_ | refine CT.exit ?_ | refine CT.ret ?_ | refine LT.nil ?_ | refine HT.nil1 ?_ | (refine LT.consT ?_; (first | refine T.box (e := 64) (cs := [.val _, .val _, .val _, .val _, .val _, .val _, .val _, .val _]) rfl rfl (by decide) rfl rfl ?_)) | ((first | apply LT.cons1 | (apply LT.guard1; rfl; rfl; rfl; decide)); (first | exact arm80_1s); decide) | refine LT.skip1 rfl rfl rfl (by decide) (by decide) ?_ | refine LT.skip2 rfl rfl (by decide) (by decide) ?_ | refine LT.partD rfl rfl (fun _ => ?_) (fun _ => ?_) | refine LT.partN rfl rfl (fun _ => ?_) (fun _ => ?_) | (refine LT.part1 rfl rfl (fun h => ?_) (fun h => ?_); (fail_if_success exact absurd h (by decide)); rotate_left; (fail_if_success exact absurd h (by decide)); rotate_left))
    refine ⟨by first | exact .inl rfl | exact .inr rfl, _, (.cons (.tmp 4 (A := .val _) rfl (fun _ h => by cases h)) .nil), ?_, rfl⟩
    rfl
theorem arm40_1s {p : Prop} (h : p := by first | exact OpH.assign (v := .val _) rfl | exact OpH.assign (v := .sl _ _) rfl | exact OpH.assign (v := .row _ _ _ _) rfl | exact OpH.assign (v := .full _ _) rfl | exact OpH.assign (v := .ptr _ _) rfl | exact OpH.assign (v := .cptr _) rfl | exact OpH.assign (v := .cloB _ _) rfl | exact OpH.assign (v := .clo _ _) rfl | exact OpH.assign (v := .pr _) rfl | exact OpH.assign (v := .arow _) rfl | exact OpH.assign (v := .aptr _ _ _ _) rfl | exact OpH.assign (v := .asub _ _ _ _) rfl | exact OpH.assign (v := .tup _) rfl | exact OpH.move (v := .val _) rfl | exact OpH.move (v := .sl _ _) rfl | exact OpH.move (v := .row _ _ _ _) rfl | exact OpH.move (v := .full _ _) rfl | exact OpH.move (v := .ptr _ _) rfl | exact OpH.move (v := .cptr _) rfl | exact OpH.move (v := .cloB _ _) rfl | exact OpH.move (v := .clo _ _) rfl | exact OpH.move (v := .pr _) rfl | exact OpH.move (v := .arow _) rfl | exact OpH.move (v := .aptr _ _ _ _) rfl | exact OpH.move (v := .asub _ _ _ _) rfl | exact OpH.move (v := .tup _) rfl | exact OpH.lenM (t := 33) rfl (.sl _ _) (by kernel_rfl) | exact OpH.lenM (t := 33) rfl (.row _ _ _ _) (by kernel_rfl) | exact OpH.lenM (t := 33) rfl (.full _ _) (by kernel_rfl) | exact OpH.len (t := 33) rfl slP (by kernel_rfl) | exact OpH.lenNil (t := 33) rfl (by kernel_rfl) | exact OpH.lenA (t := 33) rfl rfl (by kernel_rfl) (List.length_map _) | exact OpH.lenA (t := 33) rfl rfl (by kernel_rfl) rfl | exact OpH.bin rfl rfl (pb_lss_t (by omega)) | exact OpH.bin rfl rfl (pb_lss_f (by omega)) | exact OpH.bin rfl rfl (pb_lss) | exact OpH.indexS (t := 33) (k := 8) rfl slP rfl rfl (by kernel_rfl) (map_at bd) rfl | exact OpH.indexA (t := 33) (k := 8) rfl rfl rfl rfl (by kernel_rfl) bd | exact loadC8 (t := 64) rfl (by kernel_rfl) | exact loadB8 (t := 64) rfl rfl (by kernel_rfl) rfl | exact OpH.loadA (t := 64) (vs := [_, _, _, _, _, _, _, _]) rfl rfl rfl (map_at bd) (by kernel_rfl) rfl rfl | exact OpH.lenM (t := 22) rfl (.sl _ _) (by kernel_rfl) | exact OpH.lenM (t := 22) rfl (.row _ _ _ _) (by kernel_rfl) | exact OpH.lenM (t := 22) rfl (.full _ _) (by kernel_rfl) | exact OpH.len (t := 22) rfl slP (by kernel_rfl) | exact OpH.lenNil (t := 22) rfl (by kernel_rfl) | exact OpH.lenA (t := 22) rfl rfl (by kernel_rfl) (List.length_map _) | exact OpH.lenA (t := 22) rfl rfl (by kernel_rfl) rfl | exact OpH.fieldC (s := 64) (f := 0) (off := 0) rfl (by kernel_rfl) rfl | exact OpH.fieldB (s := 64) (f := 0) (off := 0) rfl (by kernel_rfl) rfl | exact OpH.fieldA (s := 64) (f := 0) (off := 0) rfl (by kernel_rfl) rfl | exact OpH.loadC1 (t := 3) rfl (by kernel_rfl) rfl | exact OpH.loadB1 (t := 3) rfl rfl (by kernel_rfl) rfl | exact OpH.loadA1 (t := 3) rfl rfl rfl (map_at bd) (by kernel_rfl) rfl rfl | exact OpH.fieldC (s := 64) (f := 1) (off := 1) rfl (by kernel_rfl) rfl | exact OpH.fieldB (s := 64) (f := 1) (off := 1) rfl (by kernel_rfl) rfl | exact OpH.fieldA (s := 64) (f := 1) (off := 1) rfl (by kernel_rfl) rfl | exact loadC7 (t := 61) rfl (by kernel_rfl) | exact loadB7 (t := 61) rfl rfl (by kernel_rfl) rfl | exact OpH.loadA (t := 61) (vs := [_, _, _, _, _, _, _]) rfl rfl rfl (map_at bd) (by kernel_rfl) rfl rfl | exact OpH.indexS (t := 22) (k := 7) rfl slP rfl rfl (by kernel_rfl) (map_at bd) rfl | exact OpH.indexA (t := 22) (k := 7) rfl rfl rfl rfl (by kernel_rfl) bd | exact OpH.bin rfl rfl (pb_inc (by omega)) | exact OpH.bin rfl rfl (pb_addN rfl (by omega)) | exact OpH.bin rfl rfl (pb_add (by omega)) | exact OpH.bin rfl rfl (pb_addw)) : p := h
set_option maxRecDepth 100000 in
set_option maxHeartbeats 4000000 in
theorem g_Apply (l : List Slt) (ws : List Wrt) (hl : l.length ≤ 60000) (hw : ws.length ≤ 65536) : Good Try.prog 40 [.sl 7 (l.map encS), .sl 8 (ws.map encX)] (.sl 7 ((applyW l ws).map encS)) := by
  have gC := g_CloneS l (by omega)
  refine Good.of_body (T := [(0, _), (1, _)]) Try.func40 rfl rfl rfl ?_
  intro K0 w0 hno
  repeat' (first | (refine LT.consT ?_; refine T.callArrL 1000 Try.func79 rfl rfl rfl gC (by decide) rfl ?_) | refine CT.seqR ?_ | refine CT.region ?_ | refine CT.seq1 ?_ | refine CT.block ?_ | refine CT.condT rfl ?_ | refine CT.condF rfl ?_ | refine CT.condD rfl (fun _ => ?_) (fun _ => ?_) | refine CT.condN rfl (fun _ => ?_) (fun _ => ?_) | refine CT.cond rfl (fun _ => ?_) (fun _ => ?_) | refine CT.skip ?_ | refine CT.exit ?_ | refine CT.ret ?_ | refine LT.nil ?_ | refine HT.nil1 ?_ | (refine LT.consT ?_; (first | refine T.alloc (e := 64) (z := .agg #[.int .i64 0, .bool false, .int .u64 0, .int .u64 0, .int .u64 0, .int .u64 0, .int .i64 0, .int .i64 0]) (cs := [.val (.int .i64 0), .val (.bool false), .val (.int .u64 0), .val (.int .u64 0), .val (.int .u64 0), .val (.int .u64 0), .val (.int .i64 0), .val (.int .i64 0)]) (by kernel_rfl) rfl (by decide) rfl rfl ?_ | refine T.storeA (t := 64) rfl rfl rfl rfl (map_at bd) (by kernel_rfl) (by kernel_rfl) (Nat.le_of_ble_eq_true (by kernel_rfl)) rfl rfl rfl ?_ | refine T.store (t := 64) rfl rfl rfl (by kernel_rfl) (by kernel_rfl) (Nat.le_of_ble_eq_true (by kernel_rfl)) rfl rfl ?_ | refine T.storeA (t := 61) rfl rfl rfl rfl (map_at bd) (by kernel_rfl) (by kernel_rfl) (Nat.le_of_ble_eq_true (by kernel_rfl)) rfl rfl rfl ?_ | refine T.store (t := 61) rfl rfl rfl (by kernel_rfl) (by kernel_rfl) (Nat.le_of_ble_eq_true (by kernel_rfl)) rfl rfl ?_)) | (apply LT.cons1; (first | exact arm40_1s); decide))
  refine CT.loopX (fun q : Nat × List Slt => (⟨[(5, .arow 1000), (10, .sl 8 (ws.map encX)), (11, .val (.int .i64 ws.length)), (12, .val (.int .i64 q.1))], [], [(1000, ⟨61, 7, q.2.map encS⟩)]⟩ : St))
    (fun q => q.1 ≤ ws.length ∧ q.2 = applyW l (ws.take q.1)) (fun q => ws.length - q.1) (0, l) ?_ ⟨Nat.zero_le _, by rw [List.take_zero]; rfl⟩ ?_
  · (apply Sub.mk; (focus (repeat (first | exact .nil | refine .other (.keep rfl rfl) ?_ | refine .other (.aref rfl rfl rfl) ?_ | refine .other (.val rfl (by first | rfl | (congr 1; first | omega | assumption | (symm; assumption)) | (simp; omega))) ?_ | refine .other .dead ?_ | refine .other (.sl rfl (.row _ _ _ _) rfl) ?_ | refine .other (.sl rfl (.sl _ _) rfl) ?_ | refine .other (.sl rfl (.full _ _) rfl) ?_ | refine .other (.slNil rfl rfl) ?_ | refine .rowNil rfl rfl rfl ?_ | refine .row rfl (by first | rfl | assumption | (rw [← List.map_append]; first | done | rfl | congr 1)) rfl rfl ?_))); (focus (repeat (first | exact .nil | refine KeepB.same rfl rfl rfl ?_ | refine KeepB.sameA rfl rfl rfl ?_))); (focus (repeat (first | exact .nil | refine KeepA.cons rfl (by first | rfl | assumption | exact List.map_set | exact List.map_set.symm | (rw [← List.map_append]; first | done | rfl | congr 1) | (congr 1; first | omega | assumption)) ?_))))
  rintro ⟨i, xs⟩ ⟨hi, hx⟩
  dsimp only at hi hx ⊢
  have hxl : xs.length = l.length := by rw [hx, applyW_len]
  by_cases hlt : i < ws.length
  · have hst := applyW_take (l := l) hlt
    rw [← hx] at hst
    obtain ⟨⟨at_, s⟩, hwi⟩ : ∃ w, ws[i] = w := ⟨_, rfl⟩
    have hat : (ws.map encX)[i]? = some (encX ⟨at_, s⟩) := by rw [List.getElem?_map, List.getElem?_eq_getElem hlt, hwi]; rfl
    have gM := g_May ⟨at_, s⟩ xs.length
    rw [hwi] at hst
    unfold app1 at hst
    have hmb : mayW ⟨at_, s⟩ xs.length = true → 0 ≤ at_ ∧ at_ < xs.length := fun h => by
      unfold mayW at h
      rw [Bool.and_eq_true, Bool.and_eq_true, decide_eq_true_eq, decide_eq_true_eq] at h
      exact h.1
    generalize mayW ⟨at_, s⟩ xs.length = my at gM hst hmb
    cases my with
    | true =>
      obtain ⟨m0, m1⟩ := hmb rfl
      obtain ⟨j, rfl⟩ : ∃ j : Nat, at_ = j := ⟨at_.toNat, by omega⟩
      have hj : j < xs.length := by omega
      rw [if_pos rfl, Int.toNat_natCast] at hst
      repeat' (first | refine CT.seqR ?_ | refine CT.region ?_ | refine CT.seq1 ?_ | refine CT.block ?_ | refine CT.condT rfl ?_ | refine CT.condF rfl ?_ | refine CT.condD rfl (fun _ => ?_) (fun _ => ?_) | refine CT.condN rfl (fun _ => ?_) (fun _ => ?_) | refine CT.cond rfl (fun _ => ?_) (fun _ => ?_) | refine CT.skip ?_ | refine CT.exit ?_ | refine CT.ret ?_ | refine LT.nil ?_ | refine HT.nil1 ?_ | (refine LT.consT ?_; (first | refine T.alloc (e := 64) (z := .agg #[.int .i64 0, .bool false, .int .u64 0, .int .u64 0, .int .u64 0, .int .u64 0, .int .i64 0, .int .i64 0]) (cs := [.val (.int .i64 0), .val (.bool false), .val (.int .u64 0), .val (.int .u64 0), .val (.int .u64 0), .val (.int .u64 0), .val (.int .i64 0), .val (.int .i64 0)]) (by kernel_rfl) rfl (by decide) rfl rfl ?_ | refine T.storeA (t := 64) rfl rfl rfl rfl (map_at bd) (by kernel_rfl) (by kernel_rfl) (Nat.le_of_ble_eq_true (by kernel_rfl)) rfl rfl rfl ?_ | refine T.store (t := 64) rfl rfl rfl (by kernel_rfl) (by kernel_rfl) (Nat.le_of_ble_eq_true (by kernel_rfl)) rfl rfl ?_ | refine T.storeA (t := 61) rfl rfl rfl rfl (map_at bd) (by kernel_rfl) (by kernel_rfl) (Nat.le_of_ble_eq_true (by kernel_rfl)) rfl rfl rfl ?_ | refine T.store (t := 61) rfl rfl rfl (by kernel_rfl) (by kernel_rfl) (Nat.le_of_ble_eq_true (by kernel_rfl)) rfl rfl ?_)) | (apply LT.cons1; (first | exact OpH.callF Try.func80 rfl rfl rfl gM rfl | exact OpH.indexS (t := 33) (k := 8) (j := i) rfl slP rfl rfl (by kernel_rfl) hat rfl | exact OpH.indexA (t := 22) (k := 7) (j := j) rfl rfl rfl rfl (by kernel_rfl) (by rw [List.length_map]; exact hj) | exact arm40_1s); decide))
      refine ⟨(i + 1, xs.set j s), ⟨by dsimp only; omega, hst.symm⟩, by dsimp only; omega, ?_⟩
      (apply Sub.mk; (focus (repeat (first | exact .nil | refine .other (.keep rfl rfl) ?_ | refine .other (.aref rfl rfl rfl) ?_ | refine .other (.val rfl (by first | rfl | (congr 1; first | omega | assumption | (symm; assumption)) | (simp; omega))) ?_ | refine .other .dead ?_ | refine .other (.sl rfl (.row _ _ _ _) rfl) ?_ | refine .other (.sl rfl (.sl _ _) rfl) ?_ | refine .other (.sl rfl (.full _ _) rfl) ?_ | refine .other (.slNil rfl rfl) ?_ | refine .rowNil rfl rfl rfl ?_ | refine .row rfl (by first | rfl | assumption | (rw [← List.map_append]; first | done | rfl | congr 1)) rfl rfl ?_))); (focus (repeat (first | exact .nil | refine KeepB.same rfl rfl rfl ?_ | refine KeepB.sameA rfl rfl rfl ?_))); (focus (repeat (first | exact .nil | refine KeepA.cons rfl (by first | rfl | assumption | exact List.map_set | exact List.map_set.symm | (rw [← List.map_append]; first | done | rfl | congr 1) | (congr 1; first | omega | assumption)) ?_))))
    | false =>
      rw [if_neg (by decide)] at hst
      repeat' (first | refine CT.seqR ?_ | refine CT.region ?_ | refine CT.seq1 ?_ | refine CT.block ?_ | refine CT.condT rfl ?_ | refine CT.condF rfl ?_ | refine CT.condD rfl (fun _ => ?_) (fun _ => ?_) | refine CT.condN rfl (fun _ => ?_) (fun _ => ?_) | refine CT.cond rfl (fun _ => ?_) (fun _ => ?_) | refine CT.skip ?_ | refine CT.exit ?_ | refine CT.ret ?_ | refine LT.nil ?_ | refine HT.nil1 ?_ | (refine LT.consT ?_; (first | refine T.alloc (e := 64) (z := .agg #[.int .i64 0, .bool false, .int .u64 0, .int .u64 0, .int .u64 0, .int .u64 0, .int .i64 0, .int .i64 0]) (cs := [.val (.int .i64 0), .val (.bool false), .val (.int .u64 0), .val (.int .u64 0), .val (.int .u64 0), .val (.int .u64 0), .val (.int .i64 0), .val (.int .i64 0)]) (by kernel_rfl) rfl (by decide) rfl rfl ?_ | refine T.storeA (t := 64) rfl rfl rfl rfl (map_at bd) (by kernel_rfl) (by kernel_rfl) (Nat.le_of_ble_eq_true (by kernel_rfl)) rfl rfl rfl ?_ | refine T.store (t := 64) rfl rfl rfl (by kernel_rfl) (by kernel_rfl) (Nat.le_of_ble_eq_true (by kernel_rfl)) rfl rfl ?_ | refine T.storeA (t := 61) rfl rfl rfl rfl (map_at bd) (by kernel_rfl) (by kernel_rfl) (Nat.le_of_ble_eq_true (by kernel_rfl)) rfl rfl rfl ?_ | refine T.store (t := 61) rfl rfl rfl (by kernel_rfl) (by kernel_rfl) (Nat.le_of_ble_eq_true (by kernel_rfl)) rfl rfl ?_)) | (apply LT.cons1; (first | exact OpH.callF Try.func80 rfl rfl rfl gM rfl | exact OpH.indexS (t := 33) (k := 8) (j := i) rfl slP rfl rfl (by kernel_rfl) hat rfl | exact arm40_1s); decide))
      refine ⟨(i + 1, xs), ⟨by dsimp only; omega, hst.symm⟩, by dsimp only; omega, ?_⟩
      (apply Sub.mk; (focus (repeat (first | exact .nil | refine .other (.keep rfl rfl) ?_ | refine .other (.aref rfl rfl rfl) ?_ | refine .other (.val rfl (by first | rfl | (congr 1; first | omega | assumption | (symm; assumption)) | (simp; omega))) ?_ | refine .other .dead ?_ | refine .other (.sl rfl (.row _ _ _ _) rfl) ?_ | refine .other (.sl rfl (.sl _ _) rfl) ?_ | refine .other (.sl rfl (.full _ _) rfl) ?_ | refine .other (.slNil rfl rfl) ?_ | refine .rowNil rfl rfl rfl ?_ | refine .row rfl (by first | rfl | assumption | (rw [← List.map_append]; first | done | rfl | congr 1)) rfl rfl ?_))); (focus (repeat (first | exact .nil | refine KeepB.same rfl rfl rfl ?_ | refine KeepB.sameA rfl rfl rfl ?_))); (focus (repeat (first | exact .nil | refine KeepA.cons rfl (by first | rfl | assumption | exact List.map_set | exact List.map_set.symm | (rw [← List.map_append]; first | done | rfl | congr 1) | (congr 1; first | omega | assumption)) ?_))))
  · obtain rfl : i = ws.length := by omega
    rw [List.take_length] at hx
    rw [← hx]
    repeat' (first | (refine CT.froz hno.1 1000 rfl rfl ?_; refine CT.sub (S' := ⟨[(4, .sl 7 (xs.map encS))], [], []⟩) ?_ (CT.ret ?_)) | refine CT.seqR ?_ | refine CT.region ?_ | refine CT.seq1 ?_ | refine CT.block ?_ | refine CT.condT rfl ?_ | refine CT.condF rfl ?_ | refine CT.condD rfl (fun _ => ?_) (fun _ => ?_) | refine CT.condN rfl (fun _ => ?_) (fun _ => ?_) | refine CT.cond rfl (fun _ => ?_) (fun _ => ?_) | refine CT.skip ?_ | refine CT.exit ?_ | refine CT.ret ?_ | refine LT.nil ?_ | refine HT.nil1 ?_ | (refine LT.consT ?_; (first | refine T.alloc (e := 64) (z := .agg #[.int .i64 0, .bool false, .int .u64 0, .int .u64 0, .int .u64 0, .int .u64 0, .int .i64 0, .int .i64 0]) (cs := [.val (.int .i64 0), .val (.bool false), .val (.int .u64 0), .val (.int .u64 0), .val (.int .u64 0), .val (.int .u64 0), .val (.int .i64 0), .val (.int .i64 0)]) (by kernel_rfl) rfl (by decide) rfl rfl ?_ | refine T.storeA (t := 64) rfl rfl rfl rfl (map_at bd) (by kernel_rfl) (by kernel_rfl) (Nat.le_of_ble_eq_true (by kernel_rfl)) rfl rfl rfl ?_ | refine T.store (t := 64) rfl rfl rfl (by kernel_rfl) (by kernel_rfl) (Nat.le_of_ble_eq_true (by kernel_rfl)) rfl rfl ?_ | refine T.storeA (t := 61) rfl rfl rfl rfl (map_at bd) (by kernel_rfl) (by kernel_rfl) (Nat.le_of_ble_eq_true (by kernel_rfl)) rfl rfl rfl ?_ | refine T.store (t := 61) rfl rfl rfl (by kernel_rfl) (by kernel_rfl) (Nat.le_of_ble_eq_true (by kernel_rfl)) rfl rfl ?_)) | (apply LT.cons1; (first | exact arm40_1s); decide))
    · (apply Sub.mk; (focus (repeat (first | exact .nil | refine .other (.keep rfl rfl) ?_ | refine .other (.aref rfl rfl rfl) ?_ | refine .other (.val rfl (by first | rfl | (congr 1; first | omega | assumption | (symm; assumption)) | (simp; omega))) ?_ | refine .other .dead ?_ | refine .other (.sl rfl (.row _ _ _ _) rfl) ?_ | refine .other (.sl rfl (.sl _ _) rfl) ?_ | refine .other (.sl rfl (.full _ _) rfl) ?_ | refine .other (.slNil rfl rfl) ?_ | refine .rowNil rfl rfl rfl ?_ | refine .row rfl (by first | rfl | assumption | (rw [← List.map_append]; first | done | rfl | congr 1)) rfl rfl ?_))); (focus (repeat (first | exact .nil | refine KeepB.same rfl rfl rfl ?_ | refine KeepB.sameA rfl rfl rfl ?_))); (focus (repeat (first | exact .nil | refine KeepA.cons rfl (by first | rfl | assumption | exact List.map_set | exact List.map_set.symm | (rw [← List.map_append]; first | done | rfl | congr 1) | (congr 1; first | omega | assumption)) ?_))))
    · refine ⟨by first | exact .inl rfl | exact .inr rfl, _, (.cons (.tmp 4 (A := .sl _ _) rfl (fun _ h => by cases h)) .nil), ?_, rfl⟩
      rfl
theorem arm97_1s {p : Prop} (h : p := by first | exact OpH.assign (v := .val _) rfl | exact OpH.assign (v := .sl _ _) rfl | exact OpH.assign (v := .row _ _ _ _) rfl | exact OpH.assign (v := .full _ _) rfl | exact OpH.assign (v := .ptr _ _) rfl | exact OpH.assign (v := .cptr _) rfl | exact OpH.assign (v := .cloB _ _) rfl | exact OpH.assign (v := .clo _ _) rfl | exact OpH.assign (v := .pr _) rfl | exact OpH.assign (v := .arow _) rfl | exact OpH.assign (v := .aptr _ _ _ _) rfl | exact OpH.assign (v := .asub _ _ _ _) rfl | exact OpH.assign (v := .tup _) rfl | exact OpH.move (v := .val _) rfl | exact OpH.move (v := .sl _ _) rfl | exact OpH.move (v := .row _ _ _ _) rfl | exact OpH.move (v := .full _ _) rfl | exact OpH.move (v := .ptr _ _) rfl | exact OpH.move (v := .cptr _) rfl | exact OpH.move (v := .cloB _ _) rfl | exact OpH.move (v := .clo _ _) rfl | exact OpH.move (v := .pr _) rfl | exact OpH.move (v := .arow _) rfl | exact OpH.move (v := .aptr _ _ _ _) rfl | exact OpH.move (v := .asub _ _ _ _) rfl | exact OpH.move (v := .tup _) rfl | exact OpH.lenM (t := 22) rfl (.sl _ _) (by kernel_rfl) | exact OpH.lenM (t := 22) rfl (.row _ _ _ _) (by kernel_rfl) | exact OpH.lenM (t := 22) rfl (.full _ _) (by kernel_rfl) | exact OpH.len (t := 22) rfl slP (by kernel_rfl) | exact OpH.lenNil (t := 22) rfl (by kernel_rfl) | exact OpH.bin rfl rfl (pb_lss_t (by omega)) | exact OpH.bin rfl rfl (pb_lss_f (by omega)) | exact OpH.bin rfl rfl (pb_lss) | exact OpH.indexS (t := 22) (k := 7) rfl slP rfl rfl (by kernel_rfl) (map_at bd) rfl | exact loadC7 (t := 61) rfl (by kernel_rfl) | exact loadB7 (t := 61) rfl rfl (by kernel_rfl) rfl | exact OpH.bin rfl rfl (pb_inc (by omega)) | exact OpH.bin rfl rfl (pb_addN rfl (by omega)) | exact OpH.bin rfl rfl (pb_add (by omega)) | exact OpH.bin rfl rfl (pb_addw)) : p := h
set_option maxRecDepth 100000 in
set_option maxHeartbeats 4000000 in
theorem g_IndexS (xs : List Slt) (h : Slt → Bool) (hl : xs.length ≤ 65536) : Good Try.prog 97 [.sl 7 (xs.map encS), .pr (FnIs Try.prog (HoldS h))] (.val (.int .i64 (idxS xs h))) := by
  refine Good.of_body (T := [(0, _), (1, _)]) Try.func97 rfl rfl rfl ?_
  intro K0 w0 hno
  repeat' (first | refine CT.seqR ?_ | refine CT.region ?_ | refine CT.seq1 ?_ | refine CT.block ?_ | refine CT.condT rfl ?_ | refine CT.condF rfl ?_ | refine CT.condD rfl (fun _ => ?_) (fun _ => ?_) | refine CT.condN rfl (fun _ => ?_) (fun _ => ?_) | refine CT.cond rfl (fun _ => ?_) (fun _ => ?_) | refine CT.skip ?_ | refine CT.exit ?_ | refine CT.ret ?_ | refine LT.nil ?_ | refine HT.nil1 ?_ | (apply LT.cons1; (first | exact arm97_1s); decide))
  refine CT.loopX (fun k : Nat => (⟨[(0, .sl 7 (xs.map encS)), (1, .pr (FnIs Try.prog (HoldS h))), (7, .val (.int .i64 xs.length)), (8, .val (.int .i64 k))], [], []⟩ : St))
    (fun k => k ≤ xs.length ∧ ∀ j, j < k → h (nth xs j) = false) (fun k => xs.length - k) 0 ?_ ⟨by omega, fun j h => by omega⟩ ?_
  · (apply Sub.mk; (focus (repeat (first | exact .nil | refine .other (.keep rfl rfl) ?_ | refine .other (.aref rfl rfl rfl) ?_ | refine .other (.val rfl (by first | rfl | (congr 1; first | omega | assumption | (symm; assumption)) | (simp; omega))) ?_ | refine .other .dead ?_ | refine .other (.sl rfl (.row _ _ _ _) rfl) ?_ | refine .other (.sl rfl (.sl _ _) rfl) ?_ | refine .other (.sl rfl (.full _ _) rfl) ?_ | refine .other (.slNil rfl rfl) ?_ | refine .rowNil rfl rfl rfl ?_ | refine .row rfl (by first | rfl | assumption | (rw [← List.map_append]; first | done | rfl | congr 1)) rfl rfl ?_))); (focus (repeat (first | exact .nil | refine KeepB.same rfl rfl rfl ?_ | refine KeepB.sameA rfl rfl rfl ?_))); (focus (repeat (first | exact .nil | refine KeepA.cons rfl (by first | rfl | assumption | exact List.map_set | exact List.map_set.symm | (rw [← List.map_append]; first | done | rfl | congr 1) | (congr 1; first | omega | assumption)) ?_))))
  rintro k ⟨hk, hc⟩
  by_cases hlt : k < xs.length
  · obtain ⟨s, hs⟩ : ∃ s, xs[k] = s := ⟨_, rfl⟩
    have hat := slot_at hlt hs
    have hn := nth_is hlt hs
    cases hh : h s with
    | false =>
      repeat' (first | refine CT.seqR ?_ | refine CT.region ?_ | refine CT.seq1 ?_ | refine CT.block ?_ | refine CT.condT rfl ?_ | refine CT.condF rfl ?_ | refine CT.condD rfl (fun _ => ?_) (fun _ => ?_) | refine CT.condN rfl (fun _ => ?_) (fun _ => ?_) | refine CT.cond rfl (fun _ => ?_) (fun _ => ?_) | refine CT.skip ?_ | refine CT.exit ?_ | refine CT.ret ?_ | refine LT.nil ?_ | refine HT.nil1 ?_ | (apply LT.cons1; (first | exact OpH.indexS (t := 22) (k := 7) (j := k) rfl slP rfl rfl (by kernel_rfl) hat rfl | exact OpH.callP (res := .val (.bool false)) rfl rfl ⟨s, rfl, by rw [hh]⟩ rfl | exact arm97_1s); decide))
      refine ⟨k + 1, ⟨by omega, fun j hj => ?_⟩, by omega, ?_⟩
      · by_cases ej : j = k
        · subst ej; rw [hn]; exact hh
        · exact hc j (by omega)
      · (apply Sub.mk; (focus (repeat (first | exact .nil | refine .other (.keep rfl rfl) ?_ | refine .other (.aref rfl rfl rfl) ?_ | refine .other (.val rfl (by first | rfl | (congr 1; first | omega | assumption | (symm; assumption)) | (simp; omega))) ?_ | refine .other .dead ?_ | refine .other (.sl rfl (.row _ _ _ _) rfl) ?_ | refine .other (.sl rfl (.sl _ _) rfl) ?_ | refine .other (.sl rfl (.full _ _) rfl) ?_ | refine .other (.slNil rfl rfl) ?_ | refine .rowNil rfl rfl rfl ?_ | refine .row rfl (by first | rfl | assumption | (rw [← List.map_append]; first | done | rfl | congr 1)) rfl rfl ?_))); (focus (repeat (first | exact .nil | refine KeepB.same rfl rfl rfl ?_ | refine KeepB.sameA rfl rfl rfl ?_))); (focus (repeat (first | exact .nil | refine KeepA.cons rfl (by first | rfl | assumption | exact List.map_set | exact List.map_set.symm | (rw [← List.map_append]; first | done | rfl | congr 1) | (congr 1; first | omega | assumption)) ?_))))
    | true =>
      have hr : idxS xs h = k := idxS_at hlt (by rw [hn]; exact hh) hc
      repeat' (first | refine CT.seqR ?_ | refine CT.region ?_ | refine CT.seq1 ?_ | refine CT.block ?_ | refine CT.condT rfl ?_ | refine CT.condF rfl ?_ | refine CT.condD rfl (fun _ => ?_) (fun _ => ?_) | refine CT.condN rfl (fun _ => ?_) (fun _ => ?_) | refine CT.cond rfl (fun _ => ?_) (fun _ => ?_) | refine CT.skip ?_ | refine CT.exit ?_ | refine CT.ret ?_ | refine LT.nil ?_ | refine HT.nil1 ?_ | (apply LT.cons1; (first | exact OpH.indexS (t := 22) (k := 7) (j := k) rfl slP rfl rfl (by kernel_rfl) hat rfl | exact OpH.callP (res := .val (.bool true)) rfl rfl ⟨s, rfl, by rw [hh]⟩ rfl | exact arm97_1s); decide))
      refine ⟨by first | exact .inl rfl | exact .inr rfl, _, (.cons (.tmp 4 (A := .val _) rfl (fun _ h => by cases h)) .nil), ?_, rfl⟩
      rw [hr]; rfl
  · obtain rfl : k = xs.length := by omega
    have hr : idxS xs h = -1 := idxS_none hc
    repeat' (first | refine CT.seqR ?_ | refine CT.region ?_ | refine CT.seq1 ?_ | refine CT.block ?_ | refine CT.condT rfl ?_ | refine CT.condF rfl ?_ | refine CT.condD rfl (fun _ => ?_) (fun _ => ?_) | refine CT.condN rfl (fun _ => ?_) (fun _ => ?_) | refine CT.cond rfl (fun _ => ?_) (fun _ => ?_) | refine CT.skip ?_ | refine CT.exit ?_ | refine CT.ret ?_ | refine LT.nil ?_ | refine HT.nil1 ?_ | (apply LT.cons1; (first | exact arm97_1s); decide))
    refine ⟨by first | exact .inl rfl | exact .inr rfl, _, (.cons (.tmp 4 (A := .val _) rfl (fun _ h => by cases h)) .nil), ?_, rfl⟩
    rw [hr]; rfl
theorem arm98_1s {p : Prop} (h : p := by first | exact OpH.assign (v := .val _) rfl | exact OpH.assign (v := .sl _ _) rfl | exact OpH.assign (v := .row _ _ _ _) rfl | exact OpH.assign (v := .full _ _) rfl | exact OpH.assign (v := .ptr _ _) rfl | exact OpH.assign (v := .cptr _) rfl | exact OpH.assign (v := .cloB _ _) rfl | exact OpH.assign (v := .clo _ _) rfl | exact OpH.assign (v := .pr _) rfl | exact OpH.assign (v := .arow _) rfl | exact OpH.assign (v := .aptr _ _ _ _) rfl | exact OpH.assign (v := .asub _ _ _ _) rfl | exact OpH.assign (v := .tup _) rfl | exact OpH.fieldC (s := 61) (f := 0) (off := 0) rfl (by kernel_rfl) rfl | exact OpH.fieldB (s := 61) (f := 0) (off := 0) rfl (by kernel_rfl) rfl | exact OpH.loadC1 (t := 4) rfl (by kernel_rfl) rfl | exact OpH.loadB1 (t := 4) rfl rfl (by kernel_rfl) rfl | exact OpH.move (v := .val _) rfl | exact OpH.move (v := .sl _ _) rfl | exact OpH.move (v := .row _ _ _ _) rfl | exact OpH.move (v := .full _ _) rfl | exact OpH.move (v := .ptr _ _) rfl | exact OpH.move (v := .cptr _) rfl | exact OpH.move (v := .cloB _ _) rfl | exact OpH.move (v := .clo _ _) rfl | exact OpH.move (v := .pr _) rfl | exact OpH.move (v := .arow _) rfl | exact OpH.move (v := .aptr _ _ _ _) rfl | exact OpH.move (v := .asub _ _ _ _) rfl | exact OpH.move (v := .tup _) rfl | exact OpH.fieldC (s := 61) (f := 1) (off := 1) rfl (by kernel_rfl) rfl | exact OpH.fieldB (s := 61) (f := 1) (off := 1) rfl (by kernel_rfl) rfl | exact OpH.fieldC (s := 29) (f := 0) (off := 0) rfl (by kernel_rfl) rfl | exact OpH.fieldB (s := 29) (f := 0) (off := 0) rfl (by kernel_rfl) rfl | exact loadC4 (t := 27) rfl (by kernel_rfl) | exact loadB4 (t := 27) rfl rfl (by kernel_rfl) rfl | exact loadC2 (t := 25) rfl (by kernel_rfl) | exact loadB2 (t := 25) rfl rfl (by kernel_rfl) rfl | exact OpH.callF Try.func99 rfl rfl rfl (g_wMatch _ _ _ _ _ _) rfl | exact OpH.pick (b := true) (v := .val _) rfl rfl | exact OpH.pick (b := false) (v := .val _) rfl rfl | exact OpH.pick (b := true) (v := .sl _ _) rfl rfl | exact OpH.pick (b := false) (v := .sl _ _) rfl rfl | exact OpH.pick (b := true) (v := .row _ _ _ _) rfl rfl | exact OpH.pick (b := false) (v := .row _ _ _ _) rfl rfl | exact OpH.pick (b := true) (v := .full _ _) rfl rfl | exact OpH.pick (b := false) (v := .full _ _) rfl rfl | exact OpH.pickV rfl rfl rfl) : p := h
set_option maxRecDepth 100000 in
set_option maxHeartbeats 2000000 in
theorem g_found1 (a : A2) (s : Slt) : Good Try.prog 98 [.val (.agg #[.bool s.valid, .int .u64 s.e.w.v.x, .int .u64 s.e.w.v.y, .int .u64 s.e.w.m.x, .int .u64 s.e.w.m.y, .int .i64 s.e.len, .int .i64 s.e.act]), .cptr [.int .u64 a.x, .int .u64 a.y]] (.val (.bool (hitS a s))) := by
  have gM : Good Try.prog 99 [.val (.agg #[.int .u64 s.e.w.v.x, .int .u64 s.e.w.v.y, .int .u64 s.e.w.m.x, .int .u64 s.e.w.m.y]), .val (.agg #[.int .u64 a.x, .int .u64 a.y])] (.val (.bool (wMatch s.e.w a))) := g_wMatch _ _ _ _ _ _
  obtain ⟨v, e⟩ := s
  unfold hitS
  dsimp only at gM ⊢
  refine Good.of_body (T := [(0, _), (1, _)]) Try.func98 rfl rfl rfl ?_
  intro K0 w0 hno
  cases v with
  | false =>
    repeat' (first | refine CT.seqR ?_ | refine CT.region ?_ | refine CT.seq1 ?_ | refine CT.block ?_ | refine CT.condT rfl ?_ | refine CT.condF rfl ?_ | refine CT.condD rfl (fun _ => ?_) (fun _ => ?_) | refine CT.condN rfl (fun _ => ?_) (fun _ => ?_) | refine CT.cond rfl (fun _ => ?_) (fun _ => ?_) | refine CT.skip ?_ | refine CT.exit ?_ | refine CT.ret ?_ | refine LT.nil ?_ | refine HT.nil1 ?_ | (refine LT.consT ?_; (first | refine T.box (e := 61) (cs := [.val _, .val _, .val _, .val _, .val _, .val _, .val _]) rfl rfl (by decide) rfl rfl ?_)) | ((first | apply LT.cons1 | (apply LT.guard1; rfl; rfl; rfl; decide)); (first | exact OpH.callF Try.func99 rfl rfl rfl gM rfl | exact arm98_1s); decide) | refine LT.skip1 rfl rfl rfl (by decide) (by decide) ?_ | refine LT.skip2 rfl rfl (by decide) (by decide) ?_ | refine LT.partD rfl rfl (fun _ => ?_) (fun _ => ?_) | refine LT.partN rfl rfl (fun _ => ?_) (fun _ => ?_) | (refine LT.part1 rfl rfl (fun h => ?_) (fun h => ?_); (fail_if_success exact absurd h (by decide)); rotate_left; (fail_if_success exact absurd h (by decide)); rotate_left))
    refine ⟨by first | exact .inl rfl | exact .inr rfl, _, (.cons (.tmp 3 (A := .val _) rfl (fun _ h => by cases h)) .nil), ?_, rfl⟩
    rfl
  | true =>
    repeat' (first | refine CT.seqR ?_ | refine CT.region ?_ | refine CT.seq1 ?_ | refine CT.block ?_ | refine CT.condT rfl ?_ | refine CT.condF rfl ?_ | refine CT.condD rfl (fun _ => ?_) (fun _ => ?_) | refine CT.condN rfl (fun _ => ?_) (fun _ => ?_) | refine CT.cond rfl (fun _ => ?_) (fun _ => ?_) | refine CT.skip ?_ | refine CT.exit ?_ | refine CT.ret ?_ | refine LT.nil ?_ | refine HT.nil1 ?_ | (refine LT.consT ?_; (first | refine T.box (e := 61) (cs := [.val _, .val _, .val _, .val _, .val _, .val _, .val _]) rfl rfl (by decide) rfl rfl ?_)) | ((first | apply LT.cons1 | (apply LT.guard1; rfl; rfl; rfl; decide)); (first | exact OpH.callF Try.func99 rfl rfl rfl gM rfl | exact arm98_1s); decide) | refine LT.skip1 rfl rfl rfl (by decide) (by decide) ?_ | refine LT.skip2 rfl rfl (by decide) (by decide) ?_ | refine LT.partD rfl rfl (fun _ => ?_) (fun _ => ?_) | refine LT.partN rfl rfl (fun _ => ?_) (fun _ => ?_) | (refine LT.part1 rfl rfl (fun h => ?_) (fun h => ?_); (fail_if_success exact absurd h (by decide)); rotate_left; (fail_if_success exact absurd h (by decide)); rotate_left))
    refine ⟨by first | exact .inl rfl | exact .inr rfl, _, (.cons (.tmp 3 (A := .val _) rfl (fun _ h => by cases h)) .nil), ?_, rfl⟩
    rw [Bool.true_and]
    rfl
theorem g_IndexHit (xs : List Slt) (a : A2) (hl : xs.length ≤ 65536) : Good Try.prog 97 [.sl 7 (xs.map encS), .clo 98 [[.int .u64 a.x, .int .u64 a.y]]] (.val (.int .i64 (idxS xs (hitS a)))) :=
  (g_IndexS xs (hitS a) hl).args rfl fun i A A' K c hA hA' h => by
    match i with
    | 0 => injection hA with hA; injection hA' with hA'; subst hA hA'; exact h
    | 1 =>
      injection hA with hA; injection hA' with hA'; subst hA hA'
      exact fnIs_clo Try.func98 rfl rfl (fun As res ⟨y, e1, e2⟩ => by subst e1 e2; exact g_found1 a y) K h
    | i + 2 => simp at hA
theorem arm81_1s {p : Prop} (h : p := by first | exact OpH.assign (v := .val _) rfl | exact OpH.assign (v := .sl _ _) rfl | exact OpH.assign (v := .row _ _ _ _) rfl | exact OpH.assign (v := .full _ _) rfl | exact OpH.assign (v := .ptr _ _) rfl | exact OpH.assign (v := .cptr _) rfl | exact OpH.assign (v := .cloB _ _) rfl | exact OpH.assign (v := .clo _ _) rfl | exact OpH.assign (v := .pr _) rfl | exact OpH.assign (v := .arow _) rfl | exact OpH.assign (v := .aptr _ _ _ _) rfl | exact OpH.assign (v := .asub _ _ _ _) rfl | exact OpH.assign (v := .tup _) rfl | exact OpH.move (v := .val _) rfl | exact OpH.move (v := .sl _ _) rfl | exact OpH.move (v := .row _ _ _ _) rfl | exact OpH.move (v := .full _ _) rfl | exact OpH.move (v := .ptr _ _) rfl | exact OpH.move (v := .cptr _) rfl | exact OpH.move (v := .cloB _ _) rfl | exact OpH.move (v := .clo _ _) rfl | exact OpH.move (v := .pr _) rfl | exact OpH.move (v := .arow _) rfl | exact OpH.move (v := .aptr _ _ _ _) rfl | exact OpH.move (v := .asub _ _ _ _) rfl | exact OpH.move (v := .tup _) rfl | exact OpH.mkfn | exact OpH.mkclo1 rfl | exact OpH.mkclo2 rfl rfl) : p := h
set_option maxRecDepth 100000 in
set_option maxHeartbeats 2000000 in
theorem g_found (l : List Slt) (a : A2) (hl : l.length ≤ 65536) : Good Try.prog 81 [.sl 7 (l.map encS), .val (.agg #[.int .u64 a.x, .int .u64 a.y])] (.val (.int .i64 (idxS l (hitS a)))) := by
  have gI := g_IndexHit l a hl
  refine Good.of_body (T := [(0, _), (1, _)]) Try.func81 rfl rfl rfl ?_
  intro K0 w0 hno
  repeat' (first | refine CT.seqR ?_ | refine CT.region ?_ | refine CT.seq1 ?_ | refine CT.block ?_ | refine CT.condT rfl ?_ | refine CT.condF rfl ?_ | refine CT.condD rfl (fun _ => ?_) (fun _ => ?_) | refine CT.condN rfl (fun _ => ?_) (fun _ => ?_) | refine CT.cond rfl (fun _ => ?_) (fun _ => ?_) | refine CT.skip ?_ | refine CT.exit ?_ | refine CT.ret ?_ | refine LT.nil ?_ | refine HT.nil1 ?_ | (refine LT.consT ?_; (first | refine T.box (e := 25) (cs := [.val _, .val _]) rfl rfl (by decide) rfl rfl ?_)) | (apply LT.cons1; (first | exact OpH.callBF Try.func97 rfl rfl rfl gI | exact arm81_1s); decide))
  refine ⟨by first | exact .inl rfl | exact .inr rfl, _, (.cons (.tmp 4 (A := .val _) rfl (fun _ h => by cases h)) .nil), ?_, rfl⟩
  rfl
theorem arm44_1s {p : Prop} (h : p := by first | exact OpH.assign (v := .val _) rfl | exact OpH.assign (v := .sl _ _) rfl | exact OpH.assign (v := .row _ _ _ _) rfl | exact OpH.assign (v := .full _ _) rfl | exact OpH.assign (v := .ptr _ _) rfl | exact OpH.assign (v := .cptr _) rfl | exact OpH.assign (v := .cloB _ _) rfl | exact OpH.assign (v := .clo _ _) rfl | exact OpH.assign (v := .pr _) rfl | exact OpH.assign (v := .arow _) rfl | exact OpH.assign (v := .aptr _ _ _ _) rfl | exact OpH.assign (v := .asub _ _ _ _) rfl | exact OpH.assign (v := .tup _) rfl | exact OpH.move (v := .val _) rfl | exact OpH.move (v := .sl _ _) rfl | exact OpH.move (v := .row _ _ _ _) rfl | exact OpH.move (v := .full _ _) rfl | exact OpH.move (v := .ptr _ _) rfl | exact OpH.move (v := .cptr _) rfl | exact OpH.move (v := .cloB _ _) rfl | exact OpH.move (v := .clo _ _) rfl | exact OpH.move (v := .pr _) rfl | exact OpH.move (v := .arow _) rfl | exact OpH.move (v := .aptr _ _ _ _) rfl | exact OpH.move (v := .asub _ _ _ _) rfl | exact OpH.move (v := .tup _) rfl | exact loadC2 (t := 25) rfl (by kernel_rfl) | exact loadB2 (t := 25) rfl rfl (by kernel_rfl) rfl | exact OpH.bin rfl rfl (pb_lss_t (by omega)) | exact OpH.bin rfl rfl (pb_lss_f (by omega)) | exact OpH.bin rfl rfl (pb_lss) | exact OpH.indexS (t := 22) (k := 7) rfl slP rfl rfl (by kernel_rfl) (map_at bd) rfl | exact OpH.fieldC (s := 61) (f := 1) (off := 1) rfl (by kernel_rfl) rfl | exact OpH.fieldB (s := 61) (f := 1) (off := 1) rfl (by kernel_rfl) rfl | exact OpH.fieldC (s := 29) (f := 2) (off := 5) rfl (by kernel_rfl) rfl | exact OpH.fieldB (s := 29) (f := 2) (off := 5) rfl (by kernel_rfl) rfl | exact OpH.loadC1 (t := 3) rfl (by kernel_rfl) rfl | exact OpH.loadB1 (t := 3) rfl rfl (by kernel_rfl) rfl) : p := h
set_option maxRecDepth 100000 in
set_option maxHeartbeats 2000000 in
theorem g_Tell (l : List Slt) (a : A2) (hl : l.length ≤ 65536) : Good Try.prog 44 [.sl 7 (l.map encS), .val (.agg #[.int .u64 a.x, .int .u64 a.y])] (.val (.int .i64 (tellS l a))) := by
  have gF := g_found l a hl
  have ht : tellS l a = if idxS l (hitS a) < 0 then 0 else (nth l (idxS l (hitS a)).toNat).e.act := rfl
  have hc := idxS_cases l (hitS a)
  generalize idxS l (hitS a) = i at gF ht hc
  generalize tellS l a = t at ht ⊢
  refine Good.of_body (T := [(0, _), (1, _)]) Try.func44 rfl rfl rfl ?_
  intro K0 w0 hno
  rcases hc with ⟨rfl, _⟩ | ⟨k, hk, rfl, _⟩
  · rw [if_pos (by decide)] at ht
    subst ht
    repeat' (first | refine CT.seqR ?_ | refine CT.region ?_ | refine CT.seq1 ?_ | refine CT.block ?_ | refine CT.condT rfl ?_ | refine CT.condF rfl ?_ | refine CT.condD rfl (fun _ => ?_) (fun _ => ?_) | refine CT.condN rfl (fun _ => ?_) (fun _ => ?_) | refine CT.cond rfl (fun _ => ?_) (fun _ => ?_) | refine CT.skip ?_ | refine CT.exit ?_ | refine CT.ret ?_ | refine LT.nil ?_ | refine HT.nil1 ?_ | (refine LT.consT ?_; (first | refine T.box (e := 25) (cs := [.val _, .val _]) rfl rfl (by decide) rfl rfl ?_)) | (apply LT.cons1; (first | exact OpH.callF Try.func81 rfl rfl rfl gF rfl | exact arm44_1s); decide))
    refine ⟨by first | exact .inl rfl | exact .inr rfl, _, (.cons (.tmp 4 (A := .val _) rfl (fun _ h => by cases h)) .nil), ?_, rfl⟩
    rfl
  · obtain ⟨s, hs⟩ : ∃ s, l[k] = s := ⟨_, rfl⟩
    have hat := slot_at hk hs
    rw [if_neg (by omega), Int.toNat_natCast, nth_is hk hs] at ht
    subst ht
    repeat' (first | refine CT.seqR ?_ | refine CT.region ?_ | refine CT.seq1 ?_ | refine CT.block ?_ | refine CT.condT rfl ?_ | refine CT.condF rfl ?_ | refine CT.condD rfl (fun _ => ?_) (fun _ => ?_) | refine CT.condN rfl (fun _ => ?_) (fun _ => ?_) | refine CT.cond rfl (fun _ => ?_) (fun _ => ?_) | refine CT.skip ?_ | refine CT.exit ?_ | refine CT.ret ?_ | refine LT.nil ?_ | refine HT.nil1 ?_ | (refine LT.consT ?_; (first | refine T.box (e := 25) (cs := [.val _, .val _]) rfl rfl (by decide) rfl rfl ?_)) | (apply LT.cons1; (first | exact OpH.callF Try.func81 rfl rfl rfl gF rfl | exact OpH.indexS (t := 22) (k := 7) (j := k) rfl slP rfl rfl (by kernel_rfl) hat rfl | exact arm44_1s); decide))
    refine ⟨by first | exact .inl rfl | exact .inr rfl, _, (.cons (.tmp 4 (A := .val _) rfl (fun _ h => by cases h)) .nil), ?_, rfl⟩
    rfl
end Go.Proofs.Ytjmnnkhdadoehaa
