/- What a merged word matches; what merged rows tell, in plain Lean. -/
import Derived.Test.YtjmnnkhdadoehaaWMergeA
import Derived.Test.YtjmnnkhdadoehaaWLawTells
import Derived.Test.YtjmnnkhdadoehaaWLen
import Derived.Test.YtjmnnkhdadoehaaWCaoA
import Derived.Test.YtjmnnkhdadoehaaWGoods
namespace Go.Proofs.Ytjmnnkhdadoehaa
set_option linter.unusedSimpArgs false
set_option linter.unusedVariables false
open Go
theorem rMatch_iff {x : W2} {a : A2} : rMatch x a = true ↔ ∀ i, i < 128 → abit x.m i = true → abit x.v i = abit a i := by
  unfold rMatch
  rw [allTo_iff]
  refine forall_congr' fun i => forall_congr' fun _ => ?_
  unfold rMatchP
  cases abit x.m i <;> cases abit x.v i <;> cases abit a i <;> simp
theorem rMeet_iff {x y : W2} : rMeet x y = true ↔ ∀ i, i < 128 → abit x.m i = true → abit y.m i = true → abit x.v i = abit y.v i := by
  unfold rMeet
  rw [allTo_iff]
  refine forall_congr' fun i => forall_congr' fun _ => ?_
  unfold rMeetP
  cases abit x.m i <;> cases abit y.m i <;> cases abit x.v i <;> cases abit y.v i <;> simp
/-- Two that meet both match an address. -/
theorem meet_some {x y : W2} (h : rMeet x y = true) : ∃ a : A2, rMatch x a = true ∧ rMatch y a = true := by
  rw [rMeet_iff] at h
  refine ⟨words fun i => if abit x.m i = true then abit x.v i else abit y.v i, ?_, ?_⟩
  · rw [rMatch_iff]
    intro i hi hm
    rw [words_bit _ hi, if_pos hm]
  · rw [rMatch_iff]
    intro i hi hm
    rw [words_bit _ hi]
    by_cases e : abit x.m i = true
    · rw [if_pos e]; exact (h i hi e hm).symm
    · rw [if_neg e]
/-- One word tells nothing but what the other one tells, and the same. -/
def Cov (x y : W2) : Prop := ∀ i, i < 128 → abit x.m i = true → abit y.m i = true ∧ abit x.v i = abit y.v i
theorem Cov.refl (x : W2) : Cov x x := fun _ _ h => ⟨h, rfl⟩
theorem Cov.trans {x y z : W2} (h1 : Cov x y) (h2 : Cov y z) : Cov x z := fun i hi hm => by
  obtain ⟨a, b⟩ := h1 i hi hm
  obtain ⟨c, d⟩ := h2 i hi a
  exact ⟨c, b.trans d⟩
/-! ### Rows -/
/-- Each of the first row is covered by one of the second as long, with its action. -/
def Part (l m : List Ent) : Prop := ∀ x ∈ l, ∃ y ∈ m, y.len = x.len ∧ y.act = x.act ∧ Cov y.w x.w
theorem Part.trans {l m r : List Ent} (h1 : Part l m) (h2 : Part m r) : Part l r := fun x hx => by
  obtain ⟨y, hy, a1, a2, a3⟩ := h1 x hx
  obtain ⟨z, hz, b1, b2, b3⟩ := h2 y hy
  exact ⟨z, hz, b1.trans a1, b2.trans a2, b3.trans a3⟩
end Go.Proofs.Ytjmnnkhdadoehaa

/- A table's entries: which address they match, and what they tell; in plain Lean. -/
namespace Go.Proofs.Ytjmnnkhdadoehaa
set_option linter.unusedSimpArgs false
set_option linter.unusedVariables false
open Go
theorem cut_canon {p : Pfx} (h : Canon p) : pMake p.a p.len = p := by
  unfold pMake
  rw [clamp_id h.lo h.hi]
  have : aCut p.a p.len = p.a := ok_ext (ok_and h.ok (mask_ok _)) h.ok fun i hi => by
    unfold aCut
    rw [abit_and h.ok (mask_ok _), mask_bit _ hi]
    by_cases c : (i : Int) < p.len
    · rw [decide_eq_true c, Bool.and_true]
    · rw [decide_eq_false c, Bool.and_false, h.zero i hi (by omega)]
  rw [this]
/-- A route's entry. -/
def entR (r : Rte) : Ent := ⟨⟨r.p.a, aMask r.p.len⟩, r.p.len, r.act⟩
theorem entR_match {r : Rte} (h : Canon r.p) {a : A2} : rMatch (entR r).w a = rpMatch r.p a := by
  rw [Bool.eq_iff_iff, rMatch_iff, rpm_iff h]
  have := h.hi
  constructor
  · intro q i hi
    exact q i (by omega) (by show abit (aMask r.p.len) i = true; rw [mask_bit _ (by omega)]; exact decide_eq_true hi)
  · intro q i hi hm
    have hm : abit (aMask r.p.len) i = true := hm
    rw [mask_bit _ hi] at hm
    exact q i (of_decide_eq_true hm)
end Go.Proofs.Ytjmnnkhdadoehaa

/- Slots in the order of chains: gaps, and when there is a way; in plain Lean. -/
namespace Go.Proofs.Ytjmnnkhdadoehaa
set_option linter.unusedSimpArgs false
set_option linter.unusedVariables false
open Go
/-- An entry is that of a prefix. -/
def IsPfx (x : Ent) : Prop := ∃ p : Pfx, Canon p ∧ x.w = ⟨p.a, aMask p.len⟩ ∧ x.len = p.len
theorem IsPfx.ok {x : Ent} (h : IsPfx x) : x.w.ok := by
  obtain ⟨p, hp, hw, _⟩ := h
  rw [hw]
  exact ⟨hp.ok, mask_ok _⟩
theorem pfx_match {x : Ent} {p : Pfx} (hp : Canon p) (hw : x.w = ⟨p.a, aMask p.len⟩) {a : A2} : rMatch x.w a = rpMatch p a := by
  have := entR_match (r := ⟨p, 0⟩) hp (a := a)
  rw [hw]
  exact this
theorem above_cov {x y : Ent} {p q : Pfx} (hp : Canon p) (hw : x.w = ⟨p.a, aMask p.len⟩) (hl : x.len = p.len) (hq : Canon q) (hv : y.w = ⟨q.a, aMask q.len⟩) (hm : y.len = q.len) : eAbove x y = true ↔ q.len < p.len ∧ PCov q p := by
  have ox : x.w.ok := IsPfx.ok ⟨p, hp, hw, hl⟩
  have oy : y.w.ok := IsPfx.ok ⟨q, hq, hv, hm⟩
  unfold eAbove
  rw [Bool.and_eq_true, decide_eq_true_eq, meet_ref ox oy, hl, hm]
  constructor
  · rintro ⟨h1, h2⟩
    obtain ⟨a, a1, a2⟩ := meet_some h2
    rw [pfx_match hp hw] at a1
    rw [pfx_match hq hv] at a2
    exact ⟨h1, cov_of_match hq hp (by omega) a2 a1⟩
  · rintro ⟨h1, h2⟩
    exact ⟨h1, both_meet (a := p.a) (by rw [pfx_match hp hw]; exact (PCov.refl hp).2) (by rw [pfx_match hq hv]; exact h2.2)⟩
theorem above_trans {x y z : Ent} (hx : IsPfx x) (hy : IsPfx y) (hz : IsPfx z) (h1 : eAbove x y = true) (h2 : eAbove y z = true) : eAbove x z = true := by
  obtain ⟨p, p1, p2, p3⟩ := hx
  obtain ⟨q, q1, q2, q3⟩ := hy
  obtain ⟨r, r1, r2, r3⟩ := hz
  obtain ⟨a1, a2⟩ := (above_cov p1 p2 p3 q1 q2 q3).1 h1
  obtain ⟨b1, b2⟩ := (above_cov q1 q2 q3 r1 r2 r3).1 h2
  exact (above_cov p1 p2 p3 r1 r2 r3).2 ⟨by omega, b2.trans r1 q1 a2⟩
/-- Of prefixes' entries no gap ends ahead of its beginning. -/
theorem gap_ok {l : List Slt} {x : Ent} (ho : OrdS l) (hp : ∀ k, k < l.length → (nth l k).valid = true → IsPfx (nth l k).e) (hx : IsPfx x) : gapFrom l x ≤ gapTo l x := by
  refine Classical.byContradiction fun hc => ?_
  have hb := lastTo_bound (hiP l x) l.length
  obtain ⟨_, h2⟩ := lastTo_spec (hiP l x) l.length
  obtain ⟨_, _, _, h4⟩ := loF_spec l x (Nat.zero_le _)
  have hfr : gapFrom l x = lastTo (hiP l x) l.length + 1 := rfl
  have hto : gapTo l x = loF l x 0 := rfl
  obtain ⟨i, hi⟩ : ∃ i : Nat, lastTo (hiP l x) l.length = i := ⟨(lastTo (hiP l x) l.length).toNat, by omega⟩
  have e1 := h2 (by omega)
  rw [hi, Int.toNat_natCast] at e1
  have e2 := h4 (by omega)
  rw [← hto] at e2
  unfold hiP at e1
  unfold loP at e2
  rw [Bool.and_eq_true] at e1 e2
  have hil : i < l.length := by omega
  have hjl : gapTo l x < l.length := by omega
  have e3 := above_trans (hp i hil e1.1) hx (hp _ hjl e2.1) e1.2 e2.2
  by_cases e : gapTo l x = i
  · rw [e, eAbove_irr] at e3; cases e3
  · have := ho.get (show gapTo l x < i by omega) hil e2.1 e1.1
    rw [e3] at this; cases this
/-! ### When there is a way -/
theorem emFirst_spec (l : List Slt) {k m : Nat} (hkm : k ≤ m) : (emFirst l k m = -1 ∧ ∀ j, k ≤ j → j < m → (nth l j).valid = true) ∨ ∃ r : Nat, emFirst l k m = r ∧ k ≤ r ∧ r < m ∧ (nth l r).valid = false ∧ ∀ j, k ≤ j → j < r → (nth l j).valid = true := by
  obtain ⟨h1, h2, h3, h4⟩ := firstF_spec (emP l) (m - k) k
  unfold emFirst
  generalize firstF (emP l) (m - k) k = r at h1 h2 h3 h4 ⊢
  have hv : ∀ j, k ≤ j → j < r → (nth l j).valid = true := fun j a b => by
    have := h3 j a b
    unfold emP at this
    simpa using this
  by_cases h : r < m
  · rw [if_pos h]
    refine .inr ⟨_, rfl, h1, h, ?_, hv⟩
    have := h4 (by omega)
    unfold emP at this
    simpa using this
  · rw [if_neg h]
    exact .inl ⟨rfl, fun j a b => hv j a (by omega)⟩
theorem emLast_spec (l : List Slt) (k m : Nat) : (emLast l k m = -1 ∧ ∀ j, k ≤ j → j < m → (nth l j).valid = true) ∨ ∃ r : Nat, emLast l k m = r ∧ k ≤ r ∧ r < m ∧ (nth l r).valid = false ∧ ∀ j, r < j → j < m → (nth l j).valid = true := by
  have hb := lastTo_bound (emP l) m
  obtain ⟨h1, h2⟩ := lastTo_spec (emP l) m
  unfold emLast
  generalize lastTo (emP l) m = q at hb h1 h2 ⊢
  have hv : ∀ j : Nat, q < j → j < m → (nth l j).valid = true := fun j a b => by
    have := h1 j a b
    unfold emP at this
    simpa using this
  by_cases h : (k : Int) ≤ q
  · rw [if_pos h]
    obtain ⟨r, rfl⟩ : ∃ r : Nat, q = r := ⟨q.toNat, by omega⟩
    refine .inr ⟨r, rfl, by omega, by omega, ?_, fun j a b => hv j (by omega) b⟩
    have := h2 (by omega)
    rw [Int.toNat_natCast] at this
    unfold emP at this
    simpa using this
  · rw [if_neg h]
    exact .inl ⟨rfl, fun j a b => hv j (by omega) b⟩
theorem wayG_out {nx : Int → Int × Int} {n f : Nat} {a : Int} (h : ¬ (0 ≤ a ∧ a < n)) : wayG nx n f a = [] := by
  cases f with
  | zero => rfl
  | succ f => simp only [wayG, if_neg h]
theorem wayG_free {nx : Int → Int × Int} {n f : Nat} {a : Int} (h : 0 ≤ a ∧ a < n) (h2 : 0 ≤ (nx a).2) : wayG nx n (f + 1) a = [a, (nx a).2] := by
  simp only [wayG, if_pos h, if_pos h2]
theorem wayG_far {nx : Int → Int × Int} {n f : Nat} {a : Int} (h : 0 ≤ a ∧ a < n) (h2 : ¬ 0 ≤ (nx a).2) : wayG nx n (f + 1) a = behind [a] (wayG nx n f (nx a).1) := by
  simp only [wayG, if_pos h, if_neg h2]
  cases wayG nx n f (nx a).1 <;> rfl
theorem behind_eq_nil {pre w : List Int} : behind pre w = [] ↔ w = [] := by
  cases w with
  | nil => simp [behind]
  | cons b w => simp [behind]
/-- From a slot down there is a way just if one of those below is empty. -/
theorem wayB_some (l : List Slt) : ∀ (f k : Nat), k ≤ l.length → l.length - k < f → (k < l.length → (nth l k).valid = true) → (wayG (nextB l) l.length f k = [] ↔ ∀ j, k ≤ j → j < l.length → (nth l j).valid = true)
  | 0, k, _, hf, _ => by omega
  | f + 1, k, hk, hf, hv => by
    by_cases hlt : k < l.length
    · have hin : (0 : Int) ≤ (k : Int) ∧ (k : Int) < l.length := by omega
      obtain ⟨q1, q2, q3, q4⟩ := loF_spec l (nth l k).e (show k + 1 ≤ l.length by omega)
      have e1 : (nextB l k).1 = (loF l (nth l k).e (k + 1) : Int) := by unfold nextB; simp only [Int.toNat_natCast]
      have e2 : (nextB l k).2 = emFirst l (k + 1) (loF l (nth l k).e (k + 1)) := by unfold nextB; simp only [Int.toNat_natCast]
      rcases emFirst_spec l q1 with ⟨h1, h2⟩ | ⟨r, h1, h2, h3, h4, _⟩
      · rw [wayG_far hin (by rw [e2, h1]; omega), behind_eq_nil, e1]
        have ih := wayB_some l f (loF l (nth l k).e (k + 1)) q2 (by omega) fun hl => by
          have := q4 hl
          unfold loP at this
          rw [Bool.and_eq_true] at this
          exact this.1
        rw [ih]
        constructor
        · intro h j hj hjl
          by_cases c : j = k
          · subst c; exact hv hjl
          · by_cases c2 : j < loF l (nth l k).e (k + 1)
            · exact h2 j (by omega) c2
            · exact h j (by omega) hjl
        · exact fun h j hj hjl => h j (by omega) hjl
      · rw [wayG_free hin (by rw [e2, h1]; omega)]
        refine ⟨fun h => (by cases h), fun h => ?_⟩
        rw [h r (by omega) (by omega)] at h4; cases h4
    · rw [wayG_out (by omega)]
      exact ⟨fun _ j hj hjl => by omega, fun _ => rfl⟩
/-- From a slot up likewise. -/
theorem wayA_some (l : List Slt) : ∀ (f : Nat) (k : Int), -1 ≤ k → k < l.length → (k + 1).toNat < f → (0 ≤ k → (nth l k.toNat).valid = true) → (wayG (nextA l) l.length f k = [] ↔ ∀ j : Nat, (j : Int) ≤ k → (nth l j).valid = true)
  | 0, k, _, _, hf, _ => by omega
  | f + 1, k, hlo, hk, hf, hv => by
    by_cases h0 : 0 ≤ k
    · obtain ⟨m, rfl⟩ : ∃ m : Nat, k = m := ⟨k.toNat, by omega⟩
      rw [Int.toNat_natCast] at hv
      have hv := hv h0
      have hin : (0 : Int) ≤ (m : Int) ∧ (m : Int) < l.length := by omega
      have qb := lastTo_bound (hiP l (nth l m).e) m
      obtain ⟨_, q3⟩ := lastTo_spec (hiP l (nth l m).e) m
      have e1 : (nextA l m).1 = hiF l (nth l m).e m := by unfold nextA; simp only [Int.toNat_natCast]
      have e2 : (nextA l m).2 = emLast l (hiF l (nth l m).e m + 1).toNat m := by unfold nextA; simp only [Int.toNat_natCast]
      have hq : hiF l (nth l m).e m = lastTo (hiP l (nth l m).e) m := rfl
      rcases emLast_spec l (hiF l (nth l m).e m + 1).toNat m with ⟨h1, h2⟩ | ⟨r, h1, h2, h3, h4, _⟩
      · rw [wayG_far hin (by rw [e2, h1]; omega), behind_eq_nil, e1]
        have ih := wayA_some l f (hiF l (nth l m).e m) (by omega) (by omega) (by omega) fun hl => by
          have := q3 (by omega)
          rw [hq]
          unfold hiP at this
          rw [Bool.and_eq_true] at this
          exact this.1
        rw [ih]
        constructor
        · intro h j hj
          by_cases c : j = m
          · subst c; exact hv
          · by_cases c2 : hiF l (nth l m).e m < (j : Int)
            · exact h2 j (by omega) (by omega)
            · exact h j (by omega)
        · exact fun h j hj => h j (by omega)
      · rw [wayG_free hin (by rw [e2, h1]; omega)]
        refine ⟨fun h => (by cases h), fun h => ?_⟩
        rw [h r (by omega)] at h4; cases h4
    · rw [wayG_out (by omega)]
      exact ⟨fun _ j hj => by omega, fun _ => rfl⟩
end Go.Proofs.Ytjmnnkhdadoehaa

/- bank.Entries, cao.Kept, lowest, highest, Gap, empty. -/
namespace Go.Proofs.Ytjmnnkhdadoehaa
set_option linter.unusedSimpArgs false
set_option linter.unusedVariables false
open Go Go.RowKit Go.Shelf
theorem entsS_step {l : List Slt} {k : Nat} (h : k < l.length) : entsS (l.take (k + 1)) = entsS (l.take k) ++ (if l[k].valid = true then [l[k].e] else []) := by
  unfold entsS
  rw [List.take_succ_eq_append_getElem h, List.filter_append, List.map_append]
  congr 1
  by_cases c : l[k].valid = true
  · rw [if_pos c, List.filter_cons_of_pos c]; rfl
  · rw [if_neg c, List.filter_cons_of_neg c]; rfl
theorem entsS_length (l : List Slt) : (entsS l).length ≤ l.length := by
  unfold entsS
  rw [List.length_map]
  exact List.length_filter_le _ _
theorem slot_at {l : List Slt} {k : Nat} (h : k < l.length) {s : Slt} (e : l[k] = s) : (l.map encS)[k]? = some (encS s) := by
  rw [List.getElem?_map, List.getElem?_eq_getElem h, e]; rfl
theorem nth_is {l : List Slt} {k : Nat} (h : k < l.length) {s : Slt} (e : l[k] = s) : nth l k = s := by rw [nth_at _ h, e]
attribute [local irreducible] OpH OpT LT CT HT Good
theorem arm25_1 {p : Prop} (h : p := by first | exact OpH.assign (v := .val _) rfl | exact OpH.assign (v := .sl _ _) rfl | exact OpH.assign (v := .row _ _ _ _) rfl | exact OpH.assign (v := .full _ _) rfl | exact OpH.assign (v := .ptr _ _) rfl | exact OpH.assign (v := .cptr _) rfl | exact OpH.assign (v := .cloB _ _) rfl | exact OpH.assign (v := .clo _ _) rfl | exact OpH.assign (v := .pr _) rfl | exact OpH.assign (v := .arow _) rfl | exact OpH.assign (v := .aptr _ _ _ _) rfl | exact OpH.assign (v := .asub _ _ _ _) rfl | exact OpH.assign (v := .tup _) rfl | exact OpH.move (v := .val _) rfl | exact OpH.move (v := .sl _ _) rfl | exact OpH.move (v := .row _ _ _ _) rfl | exact OpH.move (v := .full _ _) rfl | exact OpH.move (v := .ptr _ _) rfl | exact OpH.move (v := .cptr _) rfl | exact OpH.move (v := .cloB _ _) rfl | exact OpH.move (v := .clo _ _) rfl | exact OpH.move (v := .pr _) rfl | exact OpH.move (v := .arow _) rfl | exact OpH.move (v := .aptr _ _ _ _) rfl | exact OpH.move (v := .asub _ _ _ _) rfl | exact OpH.move (v := .tup _) rfl | exact OpH.lenM (t := 22) rfl (.sl _ _) (by kernel_rfl) | exact OpH.lenM (t := 22) rfl (.row _ _ _ _) (by kernel_rfl) | exact OpH.lenM (t := 22) rfl (.full _ _) (by kernel_rfl) | exact OpH.len (t := 22) rfl slP (by kernel_rfl) | exact OpH.lenNil (t := 22) rfl (by kernel_rfl) | exact OpH.bin rfl rfl (pb_lss_t (by omega)) | exact OpH.bin rfl rfl (pb_lss_f (by omega)) | exact OpH.bin rfl rfl (pb_lss) | exact OpH.indexS (t := 22) (k := 7) rfl slP rfl rfl (by kernel_rfl) (map_at bd) rfl | exact loadC7 (t := 61) rfl (by kernel_rfl) | exact loadB7 (t := 61) rfl rfl (by kernel_rfl) rfl | exact OpH.fieldC (s := 61) (f := 0) (off := 0) rfl (by kernel_rfl) rfl | exact OpH.fieldB (s := 61) (f := 0) (off := 0) rfl (by kernel_rfl) rfl | exact OpH.loadC1 (t := 4) rfl (by kernel_rfl) rfl | exact OpH.loadB1 (t := 4) rfl rfl (by kernel_rfl) rfl | exact OpH.fieldC (s := 61) (f := 1) (off := 1) rfl (by kernel_rfl) rfl | exact OpH.fieldB (s := 61) (f := 1) (off := 1) rfl (by kernel_rfl) rfl | exact loadC6 (t := 29) rfl (by kernel_rfl) | exact loadB6 (t := 29) rfl rfl (by kernel_rfl) rfl | exact lit_56_1 rfl | exact OpH.bin rfl rfl (pb_inc (by omega)) | exact OpH.bin rfl rfl (pb_addN rfl (by omega)) | exact OpH.bin rfl rfl (pb_add (by omega)) | exact OpH.bin rfl rfl (pb_addw)) : p := h
set_option maxRecDepth 100000 in
set_option maxHeartbeats 2000000 in
theorem g_Entries (l : List Slt) (hl : l.length ≤ 65536) : Good Try.prog 25 [.sl 7 (l.map encS)] (.row 3 29 6 ((entsS l).map encE)) := by
  refine Good.of_body (T := [(0, _)]) Try.func25 rfl rfl rfl ?_
  intro K0 w0 hno
  repeat' (first | refine CT.seqR ?_ | refine CT.region ?_ | refine CT.seq1 ?_ | refine CT.block ?_ | refine CT.condT rfl ?_ | refine CT.condF rfl ?_ | refine CT.condD rfl (fun _ => ?_) (fun _ => ?_) | refine CT.condN rfl (fun _ => ?_) (fun _ => ?_) | refine CT.cond rfl (fun _ => ?_) (fun _ => ?_) | refine CT.skip ?_ | refine CT.exit ?_ | refine CT.ret ?_ | refine CT.goto ?_ | refine CT.label ?_ | refine LT.nil ?_ | refine HT.nil1 ?_ | (refine LT.consT ?_; (first | refine T.alloc (e := 61) (z := .agg #[.bool false, .int .u64 0, .int .u64 0, .int .u64 0, .int .u64 0, .int .i64 0, .int .i64 0]) (cs := [.val (.bool false), .val (.int .u64 0), .val (.int .u64 0), .val (.int .u64 0), .val (.int .u64 0), .val (.int .i64 0), .val (.int .i64 0)]) (by kernel_rfl) rfl (by decide) rfl rfl ?_ | refine T.store (t := 61) rfl rfl rfl (by kernel_rfl) (by kernel_rfl) (Nat.le_of_ble_eq_true (by kernel_rfl)) rfl rfl ?_ | refine T.appNil (t := 56) (e := 29) (k := 6) (bytes := 48) rfl rfl srP (by kernel_rfl) szP (by decide) rfl ?_ | refine T.app (t := 56) (e := 29) (k := 6) (bytes := 48) rfl rfl srP (by kernel_rfl) szP (by decide) rfl rfl ?_)) | (apply LT.cons1; (first | exact arm25_1); decide))
  refine CT.loopX (fun k : Nat => (⟨[(3, .row 3 29 6 ((entsS (l.take k)).map encE)), (6, .sl 7 (l.map encS)), (7, .val (.int .i64 l.length)), (8, .val (.int .i64 k))], [], []⟩ : St))
    (fun k => k ≤ l.length) (fun k => l.length - k) 0 ?_ (by omega) ?_
  · rw [show entsS (l.take 0) = [] by rw [List.take_zero]; rfl]
    (apply Sub.mk; (focus (repeat (first | exact .nil | refine .other (.keep rfl rfl) ?_ | refine .other (.aref rfl rfl rfl) ?_ | refine .other (.val rfl (by first | rfl | (congr 1; first | omega | assumption | (symm; assumption)) | (simp; omega))) ?_ | refine .other .dead ?_ | refine .other (.sl rfl (.row _ _ _ _) rfl) ?_ | refine .other (.sl rfl (.sl _ _) rfl) ?_ | refine .other (.sl rfl (.full _ _) rfl) ?_ | refine .other (.slNil rfl rfl) ?_ | refine .rowNil rfl rfl rfl ?_ | refine .row rfl (by first | rfl | assumption | (rw [← List.map_append]; first | done | rfl | congr 1)) rfl rfl ?_))); (focus (repeat (first | exact .nil | refine KeepB.same rfl rfl rfl ?_ | refine KeepB.sameA rfl rfl rfl ?_))); (focus (repeat (first | exact .nil | refine KeepA.cons rfl (by first | rfl | assumption | exact List.map_set | exact List.map_set.symm | (rw [← List.map_append]; first | done | rfl | congr 1) | (congr 1; first | omega | assumption)) ?_))))
  rintro k hk
  by_cases hlt : k < l.length
  · have hel : (entsS (l.take k)).length ≤ 65536 := by
      have := entsS_length (l.take k)
      rw [List.length_take] at this; omega
    have hst := entsS_step hlt
    cases hs : l[k] with
    | mk v e =>
      have hat := slot_at hlt hs
      rw [hs] at hst
      cases v with
      | true =>
        rw [if_pos rfl] at hst
        repeat' (first | refine CT.seqR ?_ | refine CT.region ?_ | refine CT.seq1 ?_ | refine CT.block ?_ | refine CT.condT rfl ?_ | refine CT.condF rfl ?_ | refine CT.condD rfl (fun _ => ?_) (fun _ => ?_) | refine CT.condN rfl (fun _ => ?_) (fun _ => ?_) | refine CT.cond rfl (fun _ => ?_) (fun _ => ?_) | refine CT.skip ?_ | refine CT.exit ?_ | refine CT.ret ?_ | refine CT.goto ?_ | refine CT.label ?_ | refine LT.nil ?_ | refine HT.nil1 ?_ | (refine LT.consT ?_; (first | refine T.alloc (e := 61) (z := .agg #[.bool false, .int .u64 0, .int .u64 0, .int .u64 0, .int .u64 0, .int .i64 0, .int .i64 0]) (cs := [.val (.bool false), .val (.int .u64 0), .val (.int .u64 0), .val (.int .u64 0), .val (.int .u64 0), .val (.int .i64 0), .val (.int .i64 0)]) (by kernel_rfl) rfl (by decide) rfl rfl ?_ | refine T.store (t := 61) rfl rfl rfl (by kernel_rfl) (by kernel_rfl) (Nat.le_of_ble_eq_true (by kernel_rfl)) rfl rfl ?_ | refine T.appNil (t := 56) (e := 29) (k := 6) (bytes := 48) rfl rfl srP (by kernel_rfl) szP (by decide) rfl ?_ | refine T.app (t := 56) (e := 29) (k := 6) (bytes := 48) rfl rfl srP (by kernel_rfl) szP (by decide) rfl rfl ?_)) | (apply LT.cons1; (first | exact OpH.indexS (t := 22) (k := 7) (j := k) rfl slP rfl rfl (by kernel_rfl) hat rfl | exact arm25_1); decide))
        refine ⟨k + 1, by omega, by omega, ?_⟩
        rw [hst]
        (apply Sub.mk; (focus (repeat (first | exact .nil | refine .other (.keep rfl rfl) ?_ | refine .other (.aref rfl rfl rfl) ?_ | refine .other (.val rfl (by first | rfl | (congr 1; first | omega | assumption | (symm; assumption)) | (simp; omega))) ?_ | refine .other .dead ?_ | refine .other (.sl rfl (.row _ _ _ _) rfl) ?_ | refine .other (.sl rfl (.sl _ _) rfl) ?_ | refine .other (.sl rfl (.full _ _) rfl) ?_ | refine .other (.slNil rfl rfl) ?_ | refine .rowNil rfl rfl rfl ?_ | refine .row rfl (by first | rfl | assumption | (rw [← List.map_append]; first | done | rfl | congr 1)) rfl rfl ?_))); (focus (repeat (first | exact .nil | refine KeepB.same rfl rfl rfl ?_ | refine KeepB.sameA rfl rfl rfl ?_))); (focus (repeat (first | exact .nil | refine KeepA.cons rfl (by first | rfl | assumption | exact List.map_set | exact List.map_set.symm | (rw [← List.map_append]; first | done | rfl | congr 1) | (congr 1; first | omega | assumption)) ?_))))
      | false =>
        rw [if_neg (by simp), List.append_nil] at hst
        repeat' (first | refine CT.seqR ?_ | refine CT.region ?_ | refine CT.seq1 ?_ | refine CT.block ?_ | refine CT.condT rfl ?_ | refine CT.condF rfl ?_ | refine CT.condD rfl (fun _ => ?_) (fun _ => ?_) | refine CT.condN rfl (fun _ => ?_) (fun _ => ?_) | refine CT.cond rfl (fun _ => ?_) (fun _ => ?_) | refine CT.skip ?_ | refine CT.exit ?_ | refine CT.ret ?_ | refine CT.goto ?_ | refine CT.label ?_ | refine LT.nil ?_ | refine HT.nil1 ?_ | (refine LT.consT ?_; (first | refine T.alloc (e := 61) (z := .agg #[.bool false, .int .u64 0, .int .u64 0, .int .u64 0, .int .u64 0, .int .i64 0, .int .i64 0]) (cs := [.val (.bool false), .val (.int .u64 0), .val (.int .u64 0), .val (.int .u64 0), .val (.int .u64 0), .val (.int .i64 0), .val (.int .i64 0)]) (by kernel_rfl) rfl (by decide) rfl rfl ?_ | refine T.store (t := 61) rfl rfl rfl (by kernel_rfl) (by kernel_rfl) (Nat.le_of_ble_eq_true (by kernel_rfl)) rfl rfl ?_ | refine T.appNil (t := 56) (e := 29) (k := 6) (bytes := 48) rfl rfl srP (by kernel_rfl) szP (by decide) rfl ?_ | refine T.app (t := 56) (e := 29) (k := 6) (bytes := 48) rfl rfl srP (by kernel_rfl) szP (by decide) rfl rfl ?_)) | (apply LT.cons1; (first | exact OpH.indexS (t := 22) (k := 7) (j := k) rfl slP rfl rfl (by kernel_rfl) hat rfl | exact arm25_1); decide))
        refine ⟨k + 1, by omega, by omega, ?_⟩
        rw [hst]
        (apply Sub.mk; (focus (repeat (first | exact .nil | refine .other (.keep rfl rfl) ?_ | refine .other (.aref rfl rfl rfl) ?_ | refine .other (.val rfl (by first | rfl | (congr 1; first | omega | assumption | (symm; assumption)) | (simp; omega))) ?_ | refine .other .dead ?_ | refine .other (.sl rfl (.row _ _ _ _) rfl) ?_ | refine .other (.sl rfl (.sl _ _) rfl) ?_ | refine .other (.sl rfl (.full _ _) rfl) ?_ | refine .other (.slNil rfl rfl) ?_ | refine .rowNil rfl rfl rfl ?_ | refine .row rfl (by first | rfl | assumption | (rw [← List.map_append]; first | done | rfl | congr 1)) rfl rfl ?_))); (focus (repeat (first | exact .nil | refine KeepB.same rfl rfl rfl ?_ | refine KeepB.sameA rfl rfl rfl ?_))); (focus (repeat (first | exact .nil | refine KeepA.cons rfl (by first | rfl | assumption | exact List.map_set | exact List.map_set.symm | (rw [← List.map_append]; first | done | rfl | congr 1) | (congr 1; first | omega | assumption)) ?_))))
  · obtain rfl : k = l.length := by omega
    repeat' (first | refine CT.seqR ?_ | refine CT.region ?_ | refine CT.seq1 ?_ | refine CT.block ?_ | refine CT.condT rfl ?_ | refine CT.condF rfl ?_ | refine CT.condD rfl (fun _ => ?_) (fun _ => ?_) | refine CT.condN rfl (fun _ => ?_) (fun _ => ?_) | refine CT.cond rfl (fun _ => ?_) (fun _ => ?_) | refine CT.skip ?_ | refine CT.exit ?_ | refine CT.ret ?_ | refine CT.goto ?_ | refine CT.label ?_ | refine LT.nil ?_ | refine HT.nil1 ?_ | (refine LT.consT ?_; (first | refine T.alloc (e := 61) (z := .agg #[.bool false, .int .u64 0, .int .u64 0, .int .u64 0, .int .u64 0, .int .i64 0, .int .i64 0]) (cs := [.val (.bool false), .val (.int .u64 0), .val (.int .u64 0), .val (.int .u64 0), .val (.int .u64 0), .val (.int .i64 0), .val (.int .i64 0)]) (by kernel_rfl) rfl (by decide) rfl rfl ?_ | refine T.store (t := 61) rfl rfl rfl (by kernel_rfl) (by kernel_rfl) (Nat.le_of_ble_eq_true (by kernel_rfl)) rfl rfl ?_ | refine T.appNil (t := 56) (e := 29) (k := 6) (bytes := 48) rfl rfl srP (by kernel_rfl) szP (by decide) rfl ?_ | refine T.app (t := 56) (e := 29) (k := 6) (bytes := 48) rfl rfl srP (by kernel_rfl) szP (by decide) rfl rfl ?_)) | (apply LT.cons1; (first | exact arm25_1); decide))
    refine ⟨by first | exact .inl rfl | exact .inr rfl, _, (.cons (.tmp 2 (A := .row _ _ _ _) rfl (fun _ h => by cases h)) .nil), ?_, rfl⟩
    rw [List.take_length]
    rfl
theorem g_eOrdered (xs : List Ent) : Good Try.prog 62 [.sl 6 (xs.map encE)] (.val (.bool (ordered xs))) :=
  Good.sl1 (args := []) posE rfl fun A c w hcap _ h => c_Ordered A c xs hcap w h
theorem arm23_1 {p : Prop} (h : p := by first | exact OpH.assign (v := .val _) rfl | exact OpH.assign (v := .sl _ _) rfl | exact OpH.assign (v := .row _ _ _ _) rfl | exact OpH.assign (v := .full _ _) rfl | exact OpH.assign (v := .ptr _ _) rfl | exact OpH.assign (v := .cptr _) rfl | exact OpH.assign (v := .cloB _ _) rfl | exact OpH.assign (v := .clo _ _) rfl | exact OpH.assign (v := .pr _) rfl | exact OpH.assign (v := .arow _) rfl | exact OpH.assign (v := .aptr _ _ _ _) rfl | exact OpH.assign (v := .asub _ _ _ _) rfl | exact OpH.assign (v := .tup _) rfl | exact OpH.move (v := .val _) rfl | exact OpH.move (v := .sl _ _) rfl | exact OpH.move (v := .row _ _ _ _) rfl | exact OpH.move (v := .full _ _) rfl | exact OpH.move (v := .ptr _ _) rfl | exact OpH.move (v := .cptr _) rfl | exact OpH.move (v := .cloB _ _) rfl | exact OpH.move (v := .clo _ _) rfl | exact OpH.move (v := .pr _) rfl | exact OpH.move (v := .arow _) rfl | exact OpH.move (v := .aptr _ _ _ _) rfl | exact OpH.move (v := .asub _ _ _ _) rfl | exact OpH.move (v := .tup _) rfl) : p := h
set_option maxRecDepth 100000 in
set_option maxHeartbeats 2000000 in
theorem g_cKept (l : List Slt) (hl : l.length ≤ 65536) : Good Try.prog 23 [.sl 7 (l.map encS)] (.val (.bool (ordered (entsS l)))) := by
  have gE := g_Entries l hl
  have gO := g_eOrdered (entsS l)
  refine Good.of_body (T := [(0, _)]) Try.func23 rfl rfl rfl ?_
  intro K0 w0 hno
  repeat' (first | (refine LT.consT ?_; refine T.callRow Try.func25 rfl rfl rfl gE (by decide) rfl ?_) | refine CT.seqR ?_ | refine CT.region ?_ | refine CT.seq1 ?_ | refine CT.block ?_ | refine CT.condT rfl ?_ | refine CT.condF rfl ?_ | refine CT.condD rfl (fun _ => ?_) (fun _ => ?_) | refine CT.condN rfl (fun _ => ?_) (fun _ => ?_) | refine CT.cond rfl (fun _ => ?_) (fun _ => ?_) | refine CT.skip ?_ | refine CT.exit ?_ | refine CT.ret ?_ | refine CT.goto ?_ | refine CT.label ?_ | refine LT.nil ?_ | refine HT.nil1 ?_ | (apply LT.cons1; (first | exact OpH.callF Try.func62 rfl rfl rfl gO rfl | exact arm23_1); decide))
  refine ⟨by first | exact .inl rfl | exact .inr rfl, _, (.cons (.tmp 2 (A := .val _) rfl (fun _ h => by cases h)) .nil), ?_, rfl⟩
  rfl
theorem g_AboveE (x y : Ent) : Good Try.prog 83 [.val (.agg #[.int .u64 x.w.v.x, .int .u64 x.w.v.y, .int .u64 x.w.m.x, .int .u64 x.w.m.y, .int .i64 x.len, .int .i64 x.act]), .val (.agg #[.int .u64 y.w.v.x, .int .u64 y.w.v.y, .int .u64 y.w.m.x, .int .u64 y.w.m.y, .int .i64 y.len, .int .i64 y.act])] (.val (.bool (eAbove x y))) := g_Above _ _ _ _ _ _ _ _ _ _ _ _
theorem arm52_1 {p : Prop} (h : p := by first | exact OpH.assign (v := .val _) rfl | exact OpH.assign (v := .sl _ _) rfl | exact OpH.assign (v := .row _ _ _ _) rfl | exact OpH.assign (v := .full _ _) rfl | exact OpH.assign (v := .ptr _ _) rfl | exact OpH.assign (v := .cptr _) rfl | exact OpH.assign (v := .cloB _ _) rfl | exact OpH.assign (v := .clo _ _) rfl | exact OpH.assign (v := .pr _) rfl | exact OpH.assign (v := .arow _) rfl | exact OpH.assign (v := .aptr _ _ _ _) rfl | exact OpH.assign (v := .asub _ _ _ _) rfl | exact OpH.assign (v := .tup _) rfl | exact OpH.move (v := .val _) rfl | exact OpH.move (v := .sl _ _) rfl | exact OpH.move (v := .row _ _ _ _) rfl | exact OpH.move (v := .full _ _) rfl | exact OpH.move (v := .ptr _ _) rfl | exact OpH.move (v := .cptr _) rfl | exact OpH.move (v := .cloB _ _) rfl | exact OpH.move (v := .clo _ _) rfl | exact OpH.move (v := .pr _) rfl | exact OpH.move (v := .arow _) rfl | exact OpH.move (v := .aptr _ _ _ _) rfl | exact OpH.move (v := .asub _ _ _ _) rfl | exact OpH.move (v := .tup _) rfl | exact OpH.lenM (t := 22) rfl (.sl _ _) (by kernel_rfl) | exact OpH.lenM (t := 22) rfl (.row _ _ _ _) (by kernel_rfl) | exact OpH.lenM (t := 22) rfl (.full _ _) (by kernel_rfl) | exact OpH.len (t := 22) rfl slP (by kernel_rfl) | exact OpH.lenNil (t := 22) rfl (by kernel_rfl) | exact OpH.bin rfl rfl (pb_lss_t (by omega)) | exact OpH.bin rfl rfl (pb_lss_f (by omega)) | exact OpH.bin rfl rfl (pb_lss) | exact OpH.indexS (t := 22) (k := 7) rfl slP rfl rfl (by kernel_rfl) (map_at bd) rfl | exact OpH.fieldC (s := 61) (f := 0) (off := 0) rfl (by kernel_rfl) rfl | exact OpH.fieldB (s := 61) (f := 0) (off := 0) rfl (by kernel_rfl) rfl | exact OpH.loadC1 (t := 4) rfl (by kernel_rfl) rfl | exact OpH.loadB1 (t := 4) rfl rfl (by kernel_rfl) rfl | exact loadC6 (t := 29) rfl (by kernel_rfl) | exact loadB6 (t := 29) rfl rfl (by kernel_rfl) rfl | exact OpH.fieldC (s := 61) (f := 1) (off := 1) rfl (by kernel_rfl) rfl | exact OpH.fieldB (s := 61) (f := 1) (off := 1) rfl (by kernel_rfl) rfl | exact OpH.callF Try.func83 rfl rfl rfl (g_Above _ _ _ _ _ _ _ _ _ _ _ _) rfl | exact OpH.pick (b := true) (v := .val _) rfl rfl | exact OpH.pick (b := false) (v := .val _) rfl rfl | exact OpH.pick (b := true) (v := .sl _ _) rfl rfl | exact OpH.pick (b := false) (v := .sl _ _) rfl rfl | exact OpH.pick (b := true) (v := .row _ _ _ _) rfl rfl | exact OpH.pick (b := false) (v := .row _ _ _ _) rfl rfl | exact OpH.pick (b := true) (v := .full _ _) rfl rfl | exact OpH.pick (b := false) (v := .full _ _) rfl rfl | exact OpH.pickV rfl rfl rfl | exact OpH.bin rfl rfl (pb_inc (by omega)) | exact OpH.bin rfl rfl (pb_addN rfl (by omega)) | exact OpH.bin rfl rfl (pb_add (by omega)) | exact OpH.bin rfl rfl (pb_addw)) : p := h
set_option maxRecDepth 100000 in
set_option maxHeartbeats 2000000 in
theorem g_lowest (l : List Slt) (x : Ent) (k0 : Nat) (hk0 : k0 ≤ l.length) (hl : l.length ≤ 65536) : Good Try.prog 52 [.sl 7 (l.map encS), .val (.int .i64 k0), .val (.agg #[.int .u64 x.w.v.x, .int .u64 x.w.v.y, .int .u64 x.w.m.x, .int .u64 x.w.m.y, .int .i64 x.len, .int .i64 x.act])] (.val (.int .i64 (loF l x k0))) := by
  refine Good.of_body (T := [(0, _), (1, _), (2, _)]) Try.func52 rfl rfl rfl ?_
  intro K0 w0 hno
  repeat' (first | refine CT.seqR ?_ | refine CT.seqD (id := 4) 13 (by kernel_rfl) (by kernel_rfl) ?_ | refine CT.draw (id := 4) 13 (by kernel_rfl) (by kernel_rfl) ?_ | refine CT.region ?_ | refine CT.seq1 ?_ | refine CT.block ?_ | refine CT.condT rfl ?_ | refine CT.condF rfl ?_ | refine CT.condD rfl (fun _ => ?_) (fun _ => ?_) | refine CT.condN rfl (fun _ => ?_) (fun _ => ?_) | refine CT.cond rfl (fun _ => ?_) (fun _ => ?_) | refine CT.skip ?_ | refine CT.exit ?_ | refine CT.ret ?_ | refine CT.goto ?_ | refine CT.label ?_ | refine LT.nil ?_ | refine HT.nil1 ?_ | (refine LT.consT ?_; (first | refine T.box (e := 29) (cs := [.val _, .val _, .val _, .val _, .val _, .val _]) rfl rfl (by decide) rfl rfl ?_)) | ((first | apply LT.cons1 | (apply LT.guard1; rfl; rfl; rfl; decide)); (first | exact arm52_1); decide) | refine LT.skip1 rfl rfl rfl (by decide) (by decide) ?_ | refine LT.skip2 rfl rfl (by decide) (by decide) ?_ | refine LT.partD rfl rfl (fun _ => ?_) (fun _ => ?_) | refine LT.partN rfl rfl (fun _ => ?_) (fun _ => ?_) | (refine LT.part1 rfl rfl (fun h => ?_) (fun h => ?_); (fail_if_success exact absurd h (by decide)); rotate_left; (fail_if_success exact absurd h (by decide)); rotate_left) | ((first | apply HT.cons1 | (apply HT.guard1; rfl; rfl; rfl)); (first | exact arm52_1)) | refine HT.skip1 rfl rfl rfl ?_ | refine HT.skip2 rfl rfl ?_ | refine HT.partD rfl rfl (fun _ => ?_) (fun _ => ?_) | refine HT.partN rfl rfl (fun _ => ?_) (fun _ => ?_) | (refine HT.part1 rfl rfl (fun h => ?_) (fun h => ?_); (fail_if_success exact absurd h (by decide)); rotate_left; (fail_if_success exact absurd h (by decide)); rotate_left))
  refine CT.loopX (fun k : Nat => (⟨[(0, .sl 7 (l.map encS)), (5, .ptr 5 0), (7, .val (.int .i64 k))], [(5, (encE x).map AV.val)], []⟩ : St))
    (fun k => k0 ≤ k ∧ k ≤ l.length ∧ ∀ j, k0 ≤ j → j < k → loP l x j = false) (fun k => l.length - k) k0 ?_ ⟨by omega, by omega, fun j h1 h2 => by omega⟩ ?_
  · (apply Sub.mk; (focus (repeat (first | exact .nil | refine .other (.keep rfl rfl) ?_ | refine .other (.aref rfl rfl rfl) ?_ | refine .other (.val rfl (by first | rfl | (congr 1; first | omega | assumption | (symm; assumption)) | (simp; omega))) ?_ | refine .other .dead ?_ | refine .other (.sl rfl (.row _ _ _ _) rfl) ?_ | refine .other (.sl rfl (.sl _ _) rfl) ?_ | refine .other (.sl rfl (.full _ _) rfl) ?_ | refine .other (.slNil rfl rfl) ?_ | refine .rowNil rfl rfl rfl ?_ | refine .row rfl (by first | rfl | assumption | (rw [← List.map_append]; first | done | rfl | congr 1)) rfl rfl ?_))); (focus (repeat (first | exact .nil | refine KeepB.same rfl rfl rfl ?_ | refine KeepB.sameA rfl rfl rfl ?_))); (focus (repeat (first | exact .nil | refine KeepA.cons rfl (by first | rfl | assumption | exact List.map_set | exact List.map_set.symm | (rw [← List.map_append]; first | done | rfl | congr 1) | (congr 1; first | omega | assumption)) ?_))))
  rintro k ⟨hk1, hk2, hc⟩
  by_cases hlt : k < l.length
  · cases hs : l[k] with
    | mk v e =>
      have hat := slot_at hlt hs
      have hn := nth_is hlt hs
      cases v with
      | true =>
        have gA := g_AboveE x e
        cases hA : eAbove x e with
        | true =>
          rw [hA] at gA
          have hr : loF l x k0 = k := firstF_uniq hk1 (by omega) hc fun _ => by unfold loP; rw [hn, hA]; rfl
          repeat' (first | refine CT.seqR ?_ | refine CT.seqD (id := 4) 13 (by kernel_rfl) (by kernel_rfl) ?_ | refine CT.draw (id := 4) 13 (by kernel_rfl) (by kernel_rfl) ?_ | refine CT.region ?_ | refine CT.seq1 ?_ | refine CT.block ?_ | refine CT.condT rfl ?_ | refine CT.condF rfl ?_ | refine CT.condD rfl (fun _ => ?_) (fun _ => ?_) | refine CT.condN rfl (fun _ => ?_) (fun _ => ?_) | refine CT.cond rfl (fun _ => ?_) (fun _ => ?_) | refine CT.skip ?_ | refine CT.exit ?_ | refine CT.ret ?_ | refine CT.goto ?_ | refine CT.label ?_ | refine LT.nil ?_ | refine HT.nil1 ?_ | (refine LT.consT ?_; (first | refine T.box (e := 29) (cs := [.val _, .val _, .val _, .val _, .val _, .val _]) rfl rfl (by decide) rfl rfl ?_)) | ((first | apply LT.cons1 | (apply LT.guard1; rfl; rfl; rfl; decide)); (first | exact OpH.indexS (t := 22) (k := 7) (j := k) rfl slP rfl rfl (by kernel_rfl) hat rfl | exact OpH.callF Try.func83 rfl rfl rfl gA rfl | exact arm52_1); decide) | refine LT.skip1 rfl rfl rfl (by decide) (by decide) ?_ | refine LT.skip2 rfl rfl (by decide) (by decide) ?_ | refine LT.partD rfl rfl (fun _ => ?_) (fun _ => ?_) | refine LT.partN rfl rfl (fun _ => ?_) (fun _ => ?_) | (refine LT.part1 rfl rfl (fun h => ?_) (fun h => ?_); (fail_if_success exact absurd h (by decide)); rotate_left; (fail_if_success exact absurd h (by decide)); rotate_left) | ((first | apply HT.cons1 | (apply HT.guard1; rfl; rfl; rfl)); (first | exact OpH.indexS (t := 22) (k := 7) (j := k) rfl slP rfl rfl (by kernel_rfl) hat rfl | exact OpH.callF Try.func83 rfl rfl rfl gA rfl | exact arm52_1)) | refine HT.skip1 rfl rfl rfl ?_ | refine HT.skip2 rfl rfl ?_ | refine HT.partD rfl rfl (fun _ => ?_) (fun _ => ?_) | refine HT.partN rfl rfl (fun _ => ?_) (fun _ => ?_) | (refine HT.part1 rfl rfl (fun h => ?_) (fun h => ?_); (fail_if_success exact absurd h (by decide)); rotate_left; (fail_if_success exact absurd h (by decide)); rotate_left))
          refine ⟨by first | exact .inl rfl | exact .inr rfl, _, (.cons (.tmp 6 (A := .val _) rfl (fun _ h => by cases h)) .nil), ?_, rfl⟩
          rw [hr]; rfl
        | false =>
          rw [hA] at gA
          repeat' (first | refine CT.seqR ?_ | refine CT.seqD (id := 4) 13 (by kernel_rfl) (by kernel_rfl) ?_ | refine CT.draw (id := 4) 13 (by kernel_rfl) (by kernel_rfl) ?_ | refine CT.region ?_ | refine CT.seq1 ?_ | refine CT.block ?_ | refine CT.condT rfl ?_ | refine CT.condF rfl ?_ | refine CT.condD rfl (fun _ => ?_) (fun _ => ?_) | refine CT.condN rfl (fun _ => ?_) (fun _ => ?_) | refine CT.cond rfl (fun _ => ?_) (fun _ => ?_) | refine CT.skip ?_ | refine CT.exit ?_ | refine CT.ret ?_ | refine CT.goto ?_ | refine CT.label ?_ | refine LT.nil ?_ | refine HT.nil1 ?_ | (refine LT.consT ?_; (first | refine T.box (e := 29) (cs := [.val _, .val _, .val _, .val _, .val _, .val _]) rfl rfl (by decide) rfl rfl ?_)) | ((first | apply LT.cons1 | (apply LT.guard1; rfl; rfl; rfl; decide)); (first | exact OpH.indexS (t := 22) (k := 7) (j := k) rfl slP rfl rfl (by kernel_rfl) hat rfl | exact OpH.callF Try.func83 rfl rfl rfl gA rfl | exact arm52_1); decide) | refine LT.skip1 rfl rfl rfl (by decide) (by decide) ?_ | refine LT.skip2 rfl rfl (by decide) (by decide) ?_ | refine LT.partD rfl rfl (fun _ => ?_) (fun _ => ?_) | refine LT.partN rfl rfl (fun _ => ?_) (fun _ => ?_) | (refine LT.part1 rfl rfl (fun h => ?_) (fun h => ?_); (fail_if_success exact absurd h (by decide)); rotate_left; (fail_if_success exact absurd h (by decide)); rotate_left) | ((first | apply HT.cons1 | (apply HT.guard1; rfl; rfl; rfl)); (first | exact OpH.indexS (t := 22) (k := 7) (j := k) rfl slP rfl rfl (by kernel_rfl) hat rfl | exact OpH.callF Try.func83 rfl rfl rfl gA rfl | exact arm52_1)) | refine HT.skip1 rfl rfl rfl ?_ | refine HT.skip2 rfl rfl ?_ | refine HT.partD rfl rfl (fun _ => ?_) (fun _ => ?_) | refine HT.partN rfl rfl (fun _ => ?_) (fun _ => ?_) | (refine HT.part1 rfl rfl (fun h => ?_) (fun h => ?_); (fail_if_success exact absurd h (by decide)); rotate_left; (fail_if_success exact absurd h (by decide)); rotate_left))
          refine ⟨k + 1, ⟨by omega, by omega, fun j h1 h2 => ?_⟩, by omega, ?_⟩
          · by_cases ej : j = k
            · subst ej; unfold loP; rw [hn, hA]; rfl
            · exact hc j h1 (by omega)
          · (apply Sub.mk; (focus (repeat (first | exact .nil | refine .other (.keep rfl rfl) ?_ | refine .other (.aref rfl rfl rfl) ?_ | refine .other (.val rfl (by first | rfl | (congr 1; first | omega | assumption | (symm; assumption)) | (simp; omega))) ?_ | refine .other .dead ?_ | refine .other (.sl rfl (.row _ _ _ _) rfl) ?_ | refine .other (.sl rfl (.sl _ _) rfl) ?_ | refine .other (.sl rfl (.full _ _) rfl) ?_ | refine .other (.slNil rfl rfl) ?_ | refine .rowNil rfl rfl rfl ?_ | refine .row rfl (by first | rfl | assumption | (rw [← List.map_append]; first | done | rfl | congr 1)) rfl rfl ?_))); (focus (repeat (first | exact .nil | refine KeepB.same rfl rfl rfl ?_ | refine KeepB.sameA rfl rfl rfl ?_))); (focus (repeat (first | exact .nil | refine KeepA.cons rfl (by first | rfl | assumption | exact List.map_set | exact List.map_set.symm | (rw [← List.map_append]; first | done | rfl | congr 1) | (congr 1; first | omega | assumption)) ?_))))
      | false =>
        repeat' (first | refine CT.seqR ?_ | refine CT.seqD (id := 4) 13 (by kernel_rfl) (by kernel_rfl) ?_ | refine CT.draw (id := 4) 13 (by kernel_rfl) (by kernel_rfl) ?_ | refine CT.region ?_ | refine CT.seq1 ?_ | refine CT.block ?_ | refine CT.condT rfl ?_ | refine CT.condF rfl ?_ | refine CT.condD rfl (fun _ => ?_) (fun _ => ?_) | refine CT.condN rfl (fun _ => ?_) (fun _ => ?_) | refine CT.cond rfl (fun _ => ?_) (fun _ => ?_) | refine CT.skip ?_ | refine CT.exit ?_ | refine CT.ret ?_ | refine CT.goto ?_ | refine CT.label ?_ | refine LT.nil ?_ | refine HT.nil1 ?_ | (refine LT.consT ?_; (first | refine T.box (e := 29) (cs := [.val _, .val _, .val _, .val _, .val _, .val _]) rfl rfl (by decide) rfl rfl ?_)) | ((first | apply LT.cons1 | (apply LT.guard1; rfl; rfl; rfl; decide)); (first | exact OpH.indexS (t := 22) (k := 7) (j := k) rfl slP rfl rfl (by kernel_rfl) hat rfl | exact arm52_1); decide) | refine LT.skip1 rfl rfl rfl (by decide) (by decide) ?_ | refine LT.skip2 rfl rfl (by decide) (by decide) ?_ | refine LT.partD rfl rfl (fun _ => ?_) (fun _ => ?_) | refine LT.partN rfl rfl (fun _ => ?_) (fun _ => ?_) | (refine LT.part1 rfl rfl (fun h => ?_) (fun h => ?_); (fail_if_success exact absurd h (by decide)); rotate_left; (fail_if_success exact absurd h (by decide)); rotate_left) | ((first | apply HT.cons1 | (apply HT.guard1; rfl; rfl; rfl)); (first | exact OpH.indexS (t := 22) (k := 7) (j := k) rfl slP rfl rfl (by kernel_rfl) hat rfl | exact arm52_1)) | refine HT.skip1 rfl rfl rfl ?_ | refine HT.skip2 rfl rfl ?_ | refine HT.partD rfl rfl (fun _ => ?_) (fun _ => ?_) | refine HT.partN rfl rfl (fun _ => ?_) (fun _ => ?_) | (refine HT.part1 rfl rfl (fun h => ?_) (fun h => ?_); (fail_if_success exact absurd h (by decide)); rotate_left; (fail_if_success exact absurd h (by decide)); rotate_left))
        refine ⟨k + 1, ⟨by omega, by omega, fun j h1 h2 => ?_⟩, by omega, ?_⟩
        · by_cases ej : j = k
          · subst ej; unfold loP; rw [hn]; rfl
          · exact hc j h1 (by omega)
        · (apply Sub.mk; (focus (repeat (first | exact .nil | refine .other (.keep rfl rfl) ?_ | refine .other (.aref rfl rfl rfl) ?_ | refine .other (.val rfl (by first | rfl | (congr 1; first | omega | assumption | (symm; assumption)) | (simp; omega))) ?_ | refine .other .dead ?_ | refine .other (.sl rfl (.row _ _ _ _) rfl) ?_ | refine .other (.sl rfl (.sl _ _) rfl) ?_ | refine .other (.sl rfl (.full _ _) rfl) ?_ | refine .other (.slNil rfl rfl) ?_ | refine .rowNil rfl rfl rfl ?_ | refine .row rfl (by first | rfl | assumption | (rw [← List.map_append]; first | done | rfl | congr 1)) rfl rfl ?_))); (focus (repeat (first | exact .nil | refine KeepB.same rfl rfl rfl ?_ | refine KeepB.sameA rfl rfl rfl ?_))); (focus (repeat (first | exact .nil | refine KeepA.cons rfl (by first | rfl | assumption | exact List.map_set | exact List.map_set.symm | (rw [← List.map_append]; first | done | rfl | congr 1) | (congr 1; first | omega | assumption)) ?_))))
  · obtain rfl : k = l.length := by omega
    have hr : loF l x k0 = l.length := firstF_uniq hk1 (by omega) hc fun h => by omega
    repeat' (first | refine CT.seqR ?_ | refine CT.seqD (id := 4) 13 (by kernel_rfl) (by kernel_rfl) ?_ | refine CT.draw (id := 4) 13 (by kernel_rfl) (by kernel_rfl) ?_ | refine CT.region ?_ | refine CT.seq1 ?_ | refine CT.block ?_ | refine CT.condT rfl ?_ | refine CT.condF rfl ?_ | refine CT.condD rfl (fun _ => ?_) (fun _ => ?_) | refine CT.condN rfl (fun _ => ?_) (fun _ => ?_) | refine CT.cond rfl (fun _ => ?_) (fun _ => ?_) | refine CT.skip ?_ | refine CT.exit ?_ | refine CT.ret ?_ | refine CT.goto ?_ | refine CT.label ?_ | refine LT.nil ?_ | refine HT.nil1 ?_ | (refine LT.consT ?_; (first | refine T.box (e := 29) (cs := [.val _, .val _, .val _, .val _, .val _, .val _]) rfl rfl (by decide) rfl rfl ?_)) | ((first | apply LT.cons1 | (apply LT.guard1; rfl; rfl; rfl; decide)); (first | exact arm52_1); decide) | refine LT.skip1 rfl rfl rfl (by decide) (by decide) ?_ | refine LT.skip2 rfl rfl (by decide) (by decide) ?_ | refine LT.partD rfl rfl (fun _ => ?_) (fun _ => ?_) | refine LT.partN rfl rfl (fun _ => ?_) (fun _ => ?_) | (refine LT.part1 rfl rfl (fun h => ?_) (fun h => ?_); (fail_if_success exact absurd h (by decide)); rotate_left; (fail_if_success exact absurd h (by decide)); rotate_left) | ((first | apply HT.cons1 | (apply HT.guard1; rfl; rfl; rfl)); (first | exact arm52_1)) | refine HT.skip1 rfl rfl rfl ?_ | refine HT.skip2 rfl rfl ?_ | refine HT.partD rfl rfl (fun _ => ?_) (fun _ => ?_) | refine HT.partN rfl rfl (fun _ => ?_) (fun _ => ?_) | (refine HT.part1 rfl rfl (fun h => ?_) (fun h => ?_); (fail_if_success exact absurd h (by decide)); rotate_left; (fail_if_success exact absurd h (by decide)); rotate_left))
    refine ⟨by first | exact .inl rfl | exact .inr rfl, _, (.cons (.tmp 6 (A := .val _) rfl (fun _ h => by cases h)) .nil), ?_, rfl⟩
    rw [hr]; rfl
theorem arm54_1 {p : Prop} (h : p := by first | exact OpH.assign (v := .val _) rfl | exact OpH.assign (v := .sl _ _) rfl | exact OpH.assign (v := .row _ _ _ _) rfl | exact OpH.assign (v := .full _ _) rfl | exact OpH.assign (v := .ptr _ _) rfl | exact OpH.assign (v := .cptr _) rfl | exact OpH.assign (v := .cloB _ _) rfl | exact OpH.assign (v := .clo _ _) rfl | exact OpH.assign (v := .pr _) rfl | exact OpH.assign (v := .arow _) rfl | exact OpH.assign (v := .aptr _ _ _ _) rfl | exact OpH.assign (v := .asub _ _ _ _) rfl | exact OpH.assign (v := .tup _) rfl | exact OpH.move (v := .val _) rfl | exact OpH.move (v := .sl _ _) rfl | exact OpH.move (v := .row _ _ _ _) rfl | exact OpH.move (v := .full _ _) rfl | exact OpH.move (v := .ptr _ _) rfl | exact OpH.move (v := .cptr _) rfl | exact OpH.move (v := .cloB _ _) rfl | exact OpH.move (v := .clo _ _) rfl | exact OpH.move (v := .pr _) rfl | exact OpH.move (v := .arow _) rfl | exact OpH.move (v := .aptr _ _ _ _) rfl | exact OpH.move (v := .asub _ _ _ _) rfl | exact OpH.move (v := .tup _) rfl | exact OpH.bin rfl rfl (pb_sub (by omega)) | exact OpH.bin rfl rfl (pb_subw) | exact OpH.bin rfl rfl (pb_geq_t (by omega)) | exact OpH.bin rfl rfl (pb_geq_f (by omega)) | exact OpH.bin rfl rfl (pb_geq) | exact OpH.indexS (t := 22) (k := 7) rfl slP rfl rfl (by kernel_rfl) (map_at bd) rfl | exact OpH.fieldC (s := 61) (f := 0) (off := 0) rfl (by kernel_rfl) rfl | exact OpH.fieldB (s := 61) (f := 0) (off := 0) rfl (by kernel_rfl) rfl | exact OpH.loadC1 (t := 4) rfl (by kernel_rfl) rfl | exact OpH.loadB1 (t := 4) rfl rfl (by kernel_rfl) rfl | exact OpH.fieldC (s := 61) (f := 1) (off := 1) rfl (by kernel_rfl) rfl | exact OpH.fieldB (s := 61) (f := 1) (off := 1) rfl (by kernel_rfl) rfl | exact loadC6 (t := 29) rfl (by kernel_rfl) | exact loadB6 (t := 29) rfl rfl (by kernel_rfl) rfl | exact OpH.callF Try.func83 rfl rfl rfl (g_Above _ _ _ _ _ _ _ _ _ _ _ _) rfl | exact OpH.pick (b := true) (v := .val _) rfl rfl | exact OpH.pick (b := false) (v := .val _) rfl rfl | exact OpH.pick (b := true) (v := .sl _ _) rfl rfl | exact OpH.pick (b := false) (v := .sl _ _) rfl rfl | exact OpH.pick (b := true) (v := .row _ _ _ _) rfl rfl | exact OpH.pick (b := false) (v := .row _ _ _ _) rfl rfl | exact OpH.pick (b := true) (v := .full _ _) rfl rfl | exact OpH.pick (b := false) (v := .full _ _) rfl rfl | exact OpH.pickV rfl rfl rfl) : p := h
set_option maxRecDepth 100000 in
set_option maxHeartbeats 2000000 in
theorem g_highest (l : List Slt) (x : Ent) (n : Nat) (hn0 : n ≤ l.length) (hl : l.length ≤ 65536) : Good Try.prog 54 [.sl 7 (l.map encS), .val (.int .i64 n), .val (.agg #[.int .u64 x.w.v.x, .int .u64 x.w.v.y, .int .u64 x.w.m.x, .int .u64 x.w.m.y, .int .i64 x.len, .int .i64 x.act])] (.val (.int .i64 (hiF l x n))) := by
  refine Good.of_body (T := [(0, _), (1, _), (2, _)]) Try.func54 rfl rfl rfl ?_
  intro K0 w0 hno
  repeat' (first | refine CT.seqR ?_ | refine CT.seqD (id := 4) 13 (by kernel_rfl) (by kernel_rfl) ?_ | refine CT.draw (id := 4) 13 (by kernel_rfl) (by kernel_rfl) ?_ | refine CT.region ?_ | refine CT.seq1 ?_ | refine CT.block ?_ | refine CT.condT rfl ?_ | refine CT.condF rfl ?_ | refine CT.condD rfl (fun _ => ?_) (fun _ => ?_) | refine CT.condN rfl (fun _ => ?_) (fun _ => ?_) | refine CT.cond rfl (fun _ => ?_) (fun _ => ?_) | refine CT.skip ?_ | refine CT.exit ?_ | refine CT.ret ?_ | refine CT.goto ?_ | refine CT.label ?_ | refine LT.nil ?_ | refine HT.nil1 ?_ | (refine LT.consT ?_; (first | refine T.box (e := 29) (cs := [.val _, .val _, .val _, .val _, .val _, .val _]) rfl rfl (by decide) rfl rfl ?_)) | ((first | apply LT.cons1 | (apply LT.guard1; rfl; rfl; rfl; decide)); (first | exact arm54_1); decide) | refine LT.skip1 rfl rfl rfl (by decide) (by decide) ?_ | refine LT.skip2 rfl rfl (by decide) (by decide) ?_ | refine LT.partD rfl rfl (fun _ => ?_) (fun _ => ?_) | refine LT.partN rfl rfl (fun _ => ?_) (fun _ => ?_) | (refine LT.part1 rfl rfl (fun h => ?_) (fun h => ?_); (fail_if_success exact absurd h (by decide)); rotate_left; (fail_if_success exact absurd h (by decide)); rotate_left) | ((first | apply HT.cons1 | (apply HT.guard1; rfl; rfl; rfl)); (first | exact arm54_1)) | refine HT.skip1 rfl rfl rfl ?_ | refine HT.skip2 rfl rfl ?_ | refine HT.partD rfl rfl (fun _ => ?_) (fun _ => ?_) | refine HT.partN rfl rfl (fun _ => ?_) (fun _ => ?_) | (refine HT.part1 rfl rfl (fun h => ?_) (fun h => ?_); (fail_if_success exact absurd h (by decide)); rotate_left; (fail_if_success exact absurd h (by decide)); rotate_left))
  refine CT.loopX (fun m : Nat => (⟨[(0, .sl 7 (l.map encS)), (5, .ptr 5 0), (7, .val (.int .i64 ((m : Int) - 1)))], [(5, (encE x).map AV.val)], []⟩ : St))
    (fun m => m ≤ n ∧ ∀ j, m ≤ j → j < n → hiP l x j = false) (fun m => m) n ?_ ⟨by omega, fun j h1 h2 => by omega⟩ ?_
  · (apply Sub.mk; (focus (repeat (first | exact .nil | refine .other (.keep rfl rfl) ?_ | refine .other (.aref rfl rfl rfl) ?_ | refine .other (.val rfl (by first | rfl | (congr 1; first | omega | assumption | (symm; assumption)) | (simp; omega))) ?_ | refine .other .dead ?_ | refine .other (.sl rfl (.row _ _ _ _) rfl) ?_ | refine .other (.sl rfl (.sl _ _) rfl) ?_ | refine .other (.sl rfl (.full _ _) rfl) ?_ | refine .other (.slNil rfl rfl) ?_ | refine .rowNil rfl rfl rfl ?_ | refine .row rfl (by first | rfl | assumption | (rw [← List.map_append]; first | done | rfl | congr 1)) rfl rfl ?_))); (focus (repeat (first | exact .nil | refine KeepB.same rfl rfl rfl ?_ | refine KeepB.sameA rfl rfl rfl ?_))); (focus (repeat (first | exact .nil | refine KeepA.cons rfl (by first | rfl | assumption | exact List.map_set | exact List.map_set.symm | (rw [← List.map_append]; first | done | rfl | congr 1) | (congr 1; first | omega | assumption)) ?_))))
  rintro m ⟨hm, hc⟩
  cases m with
  | zero =>
    have hr : hiF l x n = -1 := lastTo_uniq (by omega) (by omega) (fun j _ h2 => hc j (by omega) h2) fun h => by omega
    repeat' (first | refine CT.seqR ?_ | refine CT.seqD (id := 4) 13 (by kernel_rfl) (by kernel_rfl) ?_ | refine CT.draw (id := 4) 13 (by kernel_rfl) (by kernel_rfl) ?_ | refine CT.region ?_ | refine CT.seq1 ?_ | refine CT.block ?_ | refine CT.condT rfl ?_ | refine CT.condF rfl ?_ | refine CT.condD rfl (fun _ => ?_) (fun _ => ?_) | refine CT.condN rfl (fun _ => ?_) (fun _ => ?_) | refine CT.cond rfl (fun _ => ?_) (fun _ => ?_) | refine CT.skip ?_ | refine CT.exit ?_ | refine CT.ret ?_ | refine CT.goto ?_ | refine CT.label ?_ | refine LT.nil ?_ | refine HT.nil1 ?_ | (refine LT.consT ?_; (first | refine T.box (e := 29) (cs := [.val _, .val _, .val _, .val _, .val _, .val _]) rfl rfl (by decide) rfl rfl ?_)) | ((first | apply LT.cons1 | (apply LT.guard1; rfl; rfl; rfl; decide)); (first | exact arm54_1); decide) | refine LT.skip1 rfl rfl rfl (by decide) (by decide) ?_ | refine LT.skip2 rfl rfl (by decide) (by decide) ?_ | refine LT.partD rfl rfl (fun _ => ?_) (fun _ => ?_) | refine LT.partN rfl rfl (fun _ => ?_) (fun _ => ?_) | (refine LT.part1 rfl rfl (fun h => ?_) (fun h => ?_); (fail_if_success exact absurd h (by decide)); rotate_left; (fail_if_success exact absurd h (by decide)); rotate_left) | ((first | apply HT.cons1 | (apply HT.guard1; rfl; rfl; rfl)); (first | exact arm54_1)) | refine HT.skip1 rfl rfl rfl ?_ | refine HT.skip2 rfl rfl ?_ | refine HT.partD rfl rfl (fun _ => ?_) (fun _ => ?_) | refine HT.partN rfl rfl (fun _ => ?_) (fun _ => ?_) | (refine HT.part1 rfl rfl (fun h => ?_) (fun h => ?_); (fail_if_success exact absurd h (by decide)); rotate_left; (fail_if_success exact absurd h (by decide)); rotate_left))
    refine ⟨by first | exact .inl rfl | exact .inr rfl, _, (.cons (.tmp 6 (A := .val _) rfl (fun _ h => by cases h)) .nil), ?_, rfl⟩
    rw [hr]; rfl
  | succ k =>
    have hlt : k < l.length := by omega
    cases hs : l[k] with
    | mk v e =>
      have hat := slot_at hlt hs
      have hn := nth_is hlt hs
      have hk1 : ((k + 1 : Nat) : Int) - 1 = k := by omega
      rw [hk1]
      cases v with
      | true =>
        have gA := g_AboveE e x
        cases hA : eAbove e x with
        | true =>
          rw [hA] at gA
          have hr : hiF l x n = k := lastTo_uniq (by omega) (by omega) (fun j h1 h2 => hc j (by omega) h2) fun _ => by rw [Int.toNat_natCast]; unfold hiP; rw [hn, hA]; rfl
          repeat' (first | refine CT.seqR ?_ | refine CT.seqD (id := 4) 13 (by kernel_rfl) (by kernel_rfl) ?_ | refine CT.draw (id := 4) 13 (by kernel_rfl) (by kernel_rfl) ?_ | refine CT.region ?_ | refine CT.seq1 ?_ | refine CT.block ?_ | refine CT.condT rfl ?_ | refine CT.condF rfl ?_ | refine CT.condD rfl (fun _ => ?_) (fun _ => ?_) | refine CT.condN rfl (fun _ => ?_) (fun _ => ?_) | refine CT.cond rfl (fun _ => ?_) (fun _ => ?_) | refine CT.skip ?_ | refine CT.exit ?_ | refine CT.ret ?_ | refine CT.goto ?_ | refine CT.label ?_ | refine LT.nil ?_ | refine HT.nil1 ?_ | (refine LT.consT ?_; (first | refine T.box (e := 29) (cs := [.val _, .val _, .val _, .val _, .val _, .val _]) rfl rfl (by decide) rfl rfl ?_)) | ((first | apply LT.cons1 | (apply LT.guard1; rfl; rfl; rfl; decide)); (first | exact OpH.indexS (t := 22) (k := 7) (j := k) rfl slP rfl rfl (by kernel_rfl) hat rfl | exact OpH.callF Try.func83 rfl rfl rfl gA rfl | exact arm54_1); decide) | refine LT.skip1 rfl rfl rfl (by decide) (by decide) ?_ | refine LT.skip2 rfl rfl (by decide) (by decide) ?_ | refine LT.partD rfl rfl (fun _ => ?_) (fun _ => ?_) | refine LT.partN rfl rfl (fun _ => ?_) (fun _ => ?_) | (refine LT.part1 rfl rfl (fun h => ?_) (fun h => ?_); (fail_if_success exact absurd h (by decide)); rotate_left; (fail_if_success exact absurd h (by decide)); rotate_left) | ((first | apply HT.cons1 | (apply HT.guard1; rfl; rfl; rfl)); (first | exact OpH.indexS (t := 22) (k := 7) (j := k) rfl slP rfl rfl (by kernel_rfl) hat rfl | exact OpH.callF Try.func83 rfl rfl rfl gA rfl | exact arm54_1)) | refine HT.skip1 rfl rfl rfl ?_ | refine HT.skip2 rfl rfl ?_ | refine HT.partD rfl rfl (fun _ => ?_) (fun _ => ?_) | refine HT.partN rfl rfl (fun _ => ?_) (fun _ => ?_) | (refine HT.part1 rfl rfl (fun h => ?_) (fun h => ?_); (fail_if_success exact absurd h (by decide)); rotate_left; (fail_if_success exact absurd h (by decide)); rotate_left))
          refine ⟨by first | exact .inl rfl | exact .inr rfl, _, (.cons (.tmp 6 (A := .val _) rfl (fun _ h => by cases h)) .nil), ?_, rfl⟩
          rw [hr]; rfl
        | false =>
          rw [hA] at gA
          repeat' (first | refine CT.seqR ?_ | refine CT.seqD (id := 4) 13 (by kernel_rfl) (by kernel_rfl) ?_ | refine CT.draw (id := 4) 13 (by kernel_rfl) (by kernel_rfl) ?_ | refine CT.region ?_ | refine CT.seq1 ?_ | refine CT.block ?_ | refine CT.condT rfl ?_ | refine CT.condF rfl ?_ | refine CT.condD rfl (fun _ => ?_) (fun _ => ?_) | refine CT.condN rfl (fun _ => ?_) (fun _ => ?_) | refine CT.cond rfl (fun _ => ?_) (fun _ => ?_) | refine CT.skip ?_ | refine CT.exit ?_ | refine CT.ret ?_ | refine CT.goto ?_ | refine CT.label ?_ | refine LT.nil ?_ | refine HT.nil1 ?_ | (refine LT.consT ?_; (first | refine T.box (e := 29) (cs := [.val _, .val _, .val _, .val _, .val _, .val _]) rfl rfl (by decide) rfl rfl ?_)) | ((first | apply LT.cons1 | (apply LT.guard1; rfl; rfl; rfl; decide)); (first | exact OpH.indexS (t := 22) (k := 7) (j := k) rfl slP rfl rfl (by kernel_rfl) hat rfl | exact OpH.callF Try.func83 rfl rfl rfl gA rfl | exact arm54_1); decide) | refine LT.skip1 rfl rfl rfl (by decide) (by decide) ?_ | refine LT.skip2 rfl rfl (by decide) (by decide) ?_ | refine LT.partD rfl rfl (fun _ => ?_) (fun _ => ?_) | refine LT.partN rfl rfl (fun _ => ?_) (fun _ => ?_) | (refine LT.part1 rfl rfl (fun h => ?_) (fun h => ?_); (fail_if_success exact absurd h (by decide)); rotate_left; (fail_if_success exact absurd h (by decide)); rotate_left) | ((first | apply HT.cons1 | (apply HT.guard1; rfl; rfl; rfl)); (first | exact OpH.indexS (t := 22) (k := 7) (j := k) rfl slP rfl rfl (by kernel_rfl) hat rfl | exact OpH.callF Try.func83 rfl rfl rfl gA rfl | exact arm54_1)) | refine HT.skip1 rfl rfl rfl ?_ | refine HT.skip2 rfl rfl ?_ | refine HT.partD rfl rfl (fun _ => ?_) (fun _ => ?_) | refine HT.partN rfl rfl (fun _ => ?_) (fun _ => ?_) | (refine HT.part1 rfl rfl (fun h => ?_) (fun h => ?_); (fail_if_success exact absurd h (by decide)); rotate_left; (fail_if_success exact absurd h (by decide)); rotate_left))
          refine ⟨k, ⟨by omega, fun j h1 h2 => ?_⟩, by omega, ?_⟩
          · by_cases ej : j = k
            · subst ej; unfold hiP; rw [hn, hA]; rfl
            · exact hc j (by omega) h2
          · (apply Sub.mk; (focus (repeat (first | exact .nil | refine .other (.keep rfl rfl) ?_ | refine .other (.aref rfl rfl rfl) ?_ | refine .other (.val rfl (by first | rfl | (congr 1; first | omega | assumption | (symm; assumption)) | (simp; omega))) ?_ | refine .other .dead ?_ | refine .other (.sl rfl (.row _ _ _ _) rfl) ?_ | refine .other (.sl rfl (.sl _ _) rfl) ?_ | refine .other (.sl rfl (.full _ _) rfl) ?_ | refine .other (.slNil rfl rfl) ?_ | refine .rowNil rfl rfl rfl ?_ | refine .row rfl (by first | rfl | assumption | (rw [← List.map_append]; first | done | rfl | congr 1)) rfl rfl ?_))); (focus (repeat (first | exact .nil | refine KeepB.same rfl rfl rfl ?_ | refine KeepB.sameA rfl rfl rfl ?_))); (focus (repeat (first | exact .nil | refine KeepA.cons rfl (by first | rfl | assumption | exact List.map_set | exact List.map_set.symm | (rw [← List.map_append]; first | done | rfl | congr 1) | (congr 1; first | omega | assumption)) ?_))))
      | false =>
        repeat' (first | refine CT.seqR ?_ | refine CT.seqD (id := 4) 13 (by kernel_rfl) (by kernel_rfl) ?_ | refine CT.draw (id := 4) 13 (by kernel_rfl) (by kernel_rfl) ?_ | refine CT.region ?_ | refine CT.seq1 ?_ | refine CT.block ?_ | refine CT.condT rfl ?_ | refine CT.condF rfl ?_ | refine CT.condD rfl (fun _ => ?_) (fun _ => ?_) | refine CT.condN rfl (fun _ => ?_) (fun _ => ?_) | refine CT.cond rfl (fun _ => ?_) (fun _ => ?_) | refine CT.skip ?_ | refine CT.exit ?_ | refine CT.ret ?_ | refine CT.goto ?_ | refine CT.label ?_ | refine LT.nil ?_ | refine HT.nil1 ?_ | (refine LT.consT ?_; (first | refine T.box (e := 29) (cs := [.val _, .val _, .val _, .val _, .val _, .val _]) rfl rfl (by decide) rfl rfl ?_)) | ((first | apply LT.cons1 | (apply LT.guard1; rfl; rfl; rfl; decide)); (first | exact OpH.indexS (t := 22) (k := 7) (j := k) rfl slP rfl rfl (by kernel_rfl) hat rfl | exact arm54_1); decide) | refine LT.skip1 rfl rfl rfl (by decide) (by decide) ?_ | refine LT.skip2 rfl rfl (by decide) (by decide) ?_ | refine LT.partD rfl rfl (fun _ => ?_) (fun _ => ?_) | refine LT.partN rfl rfl (fun _ => ?_) (fun _ => ?_) | (refine LT.part1 rfl rfl (fun h => ?_) (fun h => ?_); (fail_if_success exact absurd h (by decide)); rotate_left; (fail_if_success exact absurd h (by decide)); rotate_left) | ((first | apply HT.cons1 | (apply HT.guard1; rfl; rfl; rfl)); (first | exact OpH.indexS (t := 22) (k := 7) (j := k) rfl slP rfl rfl (by kernel_rfl) hat rfl | exact arm54_1)) | refine HT.skip1 rfl rfl rfl ?_ | refine HT.skip2 rfl rfl ?_ | refine HT.partD rfl rfl (fun _ => ?_) (fun _ => ?_) | refine HT.partN rfl rfl (fun _ => ?_) (fun _ => ?_) | (refine HT.part1 rfl rfl (fun h => ?_) (fun h => ?_); (fail_if_success exact absurd h (by decide)); rotate_left; (fail_if_success exact absurd h (by decide)); rotate_left))
        refine ⟨k, ⟨by omega, fun j h1 h2 => ?_⟩, by omega, ?_⟩
        · by_cases ej : j = k
          · subst ej; unfold hiP; rw [hn]; rfl
          · exact hc j (by omega) h2
        · (apply Sub.mk; (focus (repeat (first | exact .nil | refine .other (.keep rfl rfl) ?_ | refine .other (.aref rfl rfl rfl) ?_ | refine .other (.val rfl (by first | rfl | (congr 1; first | omega | assumption | (symm; assumption)) | (simp; omega))) ?_ | refine .other .dead ?_ | refine .other (.sl rfl (.row _ _ _ _) rfl) ?_ | refine .other (.sl rfl (.sl _ _) rfl) ?_ | refine .other (.sl rfl (.full _ _) rfl) ?_ | refine .other (.slNil rfl rfl) ?_ | refine .rowNil rfl rfl rfl ?_ | refine .row rfl (by first | rfl | assumption | (rw [← List.map_append]; first | done | rfl | congr 1)) rfl rfl ?_))); (focus (repeat (first | exact .nil | refine KeepB.same rfl rfl rfl ?_ | refine KeepB.sameA rfl rfl rfl ?_))); (focus (repeat (first | exact .nil | refine KeepA.cons rfl (by first | rfl | assumption | exact List.map_set | exact List.map_set.symm | (rw [← List.map_append]; first | done | rfl | congr 1) | (congr 1; first | omega | assumption)) ?_))))
theorem arm19_1 {p : Prop} (h : p := by first | exact OpH.assign (v := .val _) rfl | exact OpH.assign (v := .sl _ _) rfl | exact OpH.assign (v := .row _ _ _ _) rfl | exact OpH.assign (v := .full _ _) rfl | exact OpH.assign (v := .ptr _ _) rfl | exact OpH.assign (v := .cptr _) rfl | exact OpH.assign (v := .cloB _ _) rfl | exact OpH.assign (v := .clo _ _) rfl | exact OpH.assign (v := .pr _) rfl | exact OpH.assign (v := .arow _) rfl | exact OpH.assign (v := .aptr _ _ _ _) rfl | exact OpH.assign (v := .asub _ _ _ _) rfl | exact OpH.assign (v := .tup _) rfl | exact OpH.move (v := .val _) rfl | exact OpH.move (v := .sl _ _) rfl | exact OpH.move (v := .row _ _ _ _) rfl | exact OpH.move (v := .full _ _) rfl | exact OpH.move (v := .ptr _ _) rfl | exact OpH.move (v := .cptr _) rfl | exact OpH.move (v := .cloB _ _) rfl | exact OpH.move (v := .clo _ _) rfl | exact OpH.move (v := .pr _) rfl | exact OpH.move (v := .arow _) rfl | exact OpH.move (v := .aptr _ _ _ _) rfl | exact OpH.move (v := .asub _ _ _ _) rfl | exact OpH.move (v := .tup _) rfl | exact OpH.lenM (t := 22) rfl (.sl _ _) (by kernel_rfl) | exact OpH.lenM (t := 22) rfl (.row _ _ _ _) (by kernel_rfl) | exact OpH.lenM (t := 22) rfl (.full _ _) (by kernel_rfl) | exact OpH.len (t := 22) rfl slP (by kernel_rfl) | exact OpH.lenNil (t := 22) rfl (by kernel_rfl) | exact loadC6 (t := 29) rfl (by kernel_rfl) | exact loadB6 (t := 29) rfl rfl (by kernel_rfl) rfl | exact OpH.bin rfl rfl (pb_inc (by omega)) | exact OpH.bin rfl rfl (pb_addN rfl (by omega)) | exact OpH.bin rfl rfl (pb_add (by omega)) | exact OpH.bin rfl rfl (pb_addw)) : p := h
set_option maxRecDepth 100000 in
set_option maxHeartbeats 2000000 in
theorem g_Gap (l : List Slt) (x : Ent) (hl : l.length ≤ 65536) : Good Try.prog 19 [.sl 7 (l.map encS), .val (.agg #[.int .u64 x.w.v.x, .int .u64 x.w.v.y, .int .u64 x.w.m.x, .int .u64 x.w.m.y, .int .i64 x.len, .int .i64 x.act])] (.tup [.val (.int .i64 (gapFrom l x)), .val (.int .i64 (gapTo l x))]) := by
  have gH := g_highest l x l.length (Nat.le_refl _) hl
  have gL : Good Try.prog 52 [.sl 7 (l.map encS), .val (.int .i64 0), .val (.agg #[.int .u64 x.w.v.x, .int .u64 x.w.v.y, .int .u64 x.w.m.x, .int .u64 x.w.m.y, .int .i64 x.len, .int .i64 x.act])] (.val (.int .i64 (gapTo l x))) := g_lowest l x 0 (Nat.zero_le _) hl
  have hb := gapFrom_bound l x
  have hfr : gapFrom l x = hiF l x l.length + 1 := rfl
  generalize hiF l x l.length = h at gH hfr
  refine Good.of_body (T := [(0, _), (1, _)]) Try.func19 rfl rfl rfl ?_
  intro K0 w0 hno
  repeat' (first | refine CT.seqR ?_ | refine CT.seqD (id := 1) 10 (by kernel_rfl) (by kernel_rfl) ?_ | refine CT.draw (id := 1) 10 (by kernel_rfl) (by kernel_rfl) ?_ | refine CT.region ?_ | refine CT.seq1 ?_ | refine CT.block ?_ | refine CT.condT rfl ?_ | refine CT.condF rfl ?_ | refine CT.condD rfl (fun _ => ?_) (fun _ => ?_) | refine CT.condN rfl (fun _ => ?_) (fun _ => ?_) | refine CT.cond rfl (fun _ => ?_) (fun _ => ?_) | refine CT.skip ?_ | refine CT.exit ?_ | refine CT.ret ?_ | refine CT.goto ?_ | refine CT.label ?_ | refine LT.nil ?_ | refine HT.nil1 ?_ | (refine LT.consT ?_; (first | refine T.box (e := 29) (cs := [.val _, .val _, .val _, .val _, .val _, .val _]) rfl rfl (by decide) rfl rfl ?_)) | (apply LT.cons1; (first | exact OpH.callF Try.func54 rfl rfl rfl gH rfl | exact OpH.callF Try.func52 rfl rfl rfl gL rfl | exact arm19_1); decide) | (apply HT.cons1; (first | exact OpH.callF Try.func54 rfl rfl rfl gH rfl | exact OpH.callF Try.func52 rfl rfl rfl gL rfl | exact arm19_1)))
  refine ⟨by first | exact .inl rfl | exact .inr rfl, _, (.cons (.tmp 4 (A := .val _) rfl (fun _ h => by cases h)) (.cons (.tmp 5 (A := .val _) rfl (fun _ h => by cases h)) .nil)), ?_, rfl⟩
  rw [hfr]
  rfl
end Go.Proofs.Ytjmnnkhdadoehaa
