/- What LeadingZeros64 does; how many bits are alike; what prefixes match, in plain Lean. -/
import Derived.Test.YtjmnnkhdadoehaaGreatYLaidB
import Derived.Test.YtjmnnkhdadoehaaGreatYPureA
import Derived.Test.YtjmnnkhdadoehaaGreatYSpec
import Derived.Lib.BitFns
namespace Go.Proofs.YtjmnnkhdadoehaaGreat
set_option linter.unusedSimpArgs false
set_option linter.unusedVariables false
open Go
theorem c_lz64 (x : Int) (w : World) (h0 : 0 ≤ x) (h1 : x ≤ 18446744073709551615) : Calls Tryz.prog 138 #[.int .u64 x] w fun e w' => e = .returned (.int .i64 (64 - (Lib.bitLen x.toNat : Int))) ∧ w' = w := Any.bits_LeadingZeros64 Tryz.layLz x w h0 h1
theorem len_bounds (n : Nat) (hn : n < 18446744073709551616) (h0 : n ≠ 0) : 1 ≤ Lib.bitLen n ∧ 2 ^ (Lib.bitLen n - 1) ≤ n ∧ n < 2 ^ Lib.bitLen n := by
  suffices H : ∀ f m, m < 2 ^ f → m ≠ 0 → ∃ k, Lib.bitLenAux f m = k + 1 ∧ 2 ^ k ≤ m ∧ m < 2 ^ (k + 1) by
    obtain ⟨k, e, h1, h2⟩ := H 64 n (by omega) h0
    unfold Lib.bitLen
    rw [e]
    exact ⟨by omega, h1, h2⟩
  intro f
  induction f with
  | zero => intro m hm h; simp at hm; omega
  | succ f ih =>
    intro m hm h
    simp only [Lib.bitLenAux, if_neg h]
    by_cases h2 : m / 2 = 0
    · have : m = 1 := by omega
      subst this
      refine ⟨0, ?_, by simp, by simp⟩
      cases f <;> simp [Lib.bitLenAux]
    · obtain ⟨k, e, a, b⟩ := ih (m / 2) (by rw [Nat.pow_succ] at hm; omega) h2
      refine ⟨k + 1, by rw [e]; omega, ?_, ?_⟩
      · rw [Nat.pow_succ]; omega
      · rw [Nat.pow_succ] at b ⊢; omega
def lz (x : Int) : Nat := 64 - Lib.bitLen x.toNat
theorem lz_int {x : Int} (h : U x) : 64 - (Lib.bitLen x.toNat : Int) = (lz x : Int) ∧ lz x ≤ 64 := by
  have := Lib.bitLen_le x.toNat 64 (by omega) (by have := h.2; omega)
  unfold lz
  omega
theorem lz_spec {x : Int} (h : U x) : (∀ i, i < lz x → wbit x (63 - i) = false) ∧ (x ≠ 0 → lz x < 64 ∧ wbit x (63 - lz x) = true) := by
  obtain ⟨n, rfl, hn⟩ := U_nat h
  by_cases h0 : n = 0
  · subst h0
    refine ⟨fun i _ => ?_, fun hne => absurd rfl hne⟩
    rw [wbit_nat]; simp
  · obtain ⟨h1, h2, h3⟩ := len_bounds n hn h0
    have hle := Lib.bitLen_le n 64 (by omega) (by omega)
    have e : lz (n : Int) = 64 - Lib.bitLen n := by unfold lz; rw [Int.toNat_natCast]
    generalize Lib.bitLen n = L at *
    refine ⟨fun i hi => ?_, fun _ => ⟨by omega, ?_⟩⟩
    · rw [wbit_nat]
      refine Nat.testBit_lt_two_pow (Nat.lt_of_lt_of_le h3 ?_)
      exact Nat.pow_le_pow_right (by omega) (by omega)
    · obtain ⟨k, rfl⟩ : ∃ k, L = k + 1 := ⟨L - 1, by omega⟩
      simp only [Nat.add_sub_cancel] at h2
      rw [wbit_nat, e, show 63 - (64 - (k + 1)) = k by omega, Nat.testBit_eq_decide_div_mod_eq]
      have hlt : n / 2 ^ k < 2 := by
        rw [Nat.div_lt_iff_lt_mul (Nat.pow_pos (by omega))]
        rw [Nat.pow_succ] at h3
        omega
      have hge : 1 ≤ n / 2 ^ k := (Nat.le_div_iff_mul_le (Nat.pow_pos (by omega))).2 (by omega)
      have : n / 2 ^ k = 1 := by omega
      rw [this]; rfl
def aCommon (a b : A2) : Nat := if (aXor a b).x ≠ 0 then lz (aXor a b).x else 64 + lz (aXor a b).y
theorem common_spec {a b : A2} (ha : a.ok) (hb : b.ok) : aCommon a b ≤ 128 ∧ allTo (eqP a b) (aCommon a b) = true ∧ (aCommon a b < 128 → abit a (aCommon a b) ≠ abit b (aCommon a b)) := by
  have hx : U (aXor a b).x := U_xor ha.1 hb.1
  have hy : U (aXor a b).y := U_xor ha.2 hb.2
  have bx : ∀ i, wbit (aXor a b).x i = (wbit a.x i != wbit b.x i) := wbit_xor ha.1 hb.1
  have bY : ∀ i, wbit (aXor a b).y i = (wbit a.y i != wbit b.y i) := wbit_xor ha.2 hb.2
  have lx := (lz_int hx).2
  have ly := (lz_int hy).2
  have sx := lz_spec hx
  have sy := lz_spec hy
  rw [allTo_iff]
  unfold aCommon eqP
  by_cases e : (aXor a b).x = 0
  · rw [if_neg (by simp [e])]
    have exy := word_eq ha.1 hb.1 fun i hi => by
      have := bx (63 - i)
      rw [e] at this
      rw [show wbit 0 (63 - i) = false from by rw [show (0 : Int) = ((0 : Nat) : Int) from rfl, wbit_nat]; simp] at this
      simpa using this.symm
    refine ⟨by omega, fun i hi => ?_, fun hlt => ?_⟩
    · by_cases h : i < 64
      · unfold abit; rw [if_pos h, if_pos h, exy]; simp
      · have := sy.1 (i - 64) (by omega)
        rw [bY, show 63 - (i - 64) = 127 - i by omega] at this
        unfold abit; rw [if_neg h, if_neg h]
        simpa using this
    · have hy0 : (aXor a b).y ≠ 0 := fun h0 => by
        have : lz (aXor a b).y = 64 := by rw [h0]; rfl
        omega
      obtain ⟨h1, h2⟩ := sy.2 hy0
      rw [bY, show 63 - lz (aXor a b).y = 127 - (64 + lz (aXor a b).y) by omega] at h2
      unfold abit; rw [if_neg (by omega), if_neg (by omega)]
      simpa using h2
  · rw [if_pos e]
    obtain ⟨h1, h2⟩ := sx.2 e
    refine ⟨by omega, fun i hi => ?_, fun _ => ?_⟩
    · have := sx.1 i hi
      rw [bx] at this
      unfold abit; rw [if_pos (by omega), if_pos (by omega)]
      simpa using this
    · rw [bx] at h2
      unfold abit; rw [if_pos h1, if_pos h1]
      simpa using h2
theorem common_le {a b : A2} (ha : a.ok) (hb : b.ok) {n : Nat} (hn : n ≤ 128) : n ≤ aCommon a b ↔ allTo (eqP a b) n = true := by
  obtain ⟨h1, h2, h3⟩ := common_spec ha hb
  rw [allTo_iff] at *
  constructor
  · intro h i hi
    exact h2 i (by omega)
  · intro h
    refine Classical.byContradiction fun hc => ?_
    have hne := h3 (by omega)
    have := h (aCommon a b) (by omega)
    unfold eqP at this
    exact hne (by simpa using this)
theorem clamp_range (n : Int) : 0 ≤ clamp n ∧ clamp n ≤ 128 := by
  unfold clamp
  split
  · omega
  · split <;> omega
def pMatch (p : Pfx) (a : A2) : Bool := decide (clamp p.len ≤ (aCommon p.a a : Int))
def rpMatch (p : Pfx) (a : A2) : Bool := allTo (eqP p.a a) (clamp p.len).toNat
theorem pmatch_ref {p : Pfx} {a : A2} (hp : p.a.ok) (ha : a.ok) : pMatch p a = rpMatch p a := by
  have := clamp_range p.len
  have h := common_le hp ha (n := (clamp p.len).toNat) (by omega)
  unfold pMatch rpMatch
  rw [Bool.eq_iff_iff, decide_eq_true_eq, ← h]
  omega
def rpCovers (p q : Pfx) : Bool := decide (p.len ≤ q.len) && rpMatch p q.a
def pCmp (p q : Pfx) : Int := if aCompare p.a q.a = 0 then (if p.len < q.len then -1 else if q.len < p.len then 1 else 0) else aCompare p.a q.a
end Go.Proofs.YtjmnnkhdadoehaaGreat

/- Prefixes, their order, tables of routes, and those that say something new, in plain Lean. -/
namespace Go.Proofs.YtjmnnkhdadoehaaGreat
set_option linter.unusedSimpArgs false
set_option linter.unusedVariables false
open Go
structure Canon (p : Pfx) : Prop where
  lo : 0 ≤ p.len
  hi : p.len ≤ 128
  ok : p.a.ok
  zero : ∀ i : Nat, i < 128 → p.len ≤ i → abit p.a i = false
theorem clamp_id {n : Int} (h0 : 0 ≤ n) (h1 : n ≤ 128) : clamp n = n := by
  unfold clamp
  rw [if_neg (by omega), if_neg (by omega)]
theorem rpm_iff {p : Pfx} (hp : Canon p) {a : A2} : rpMatch p a = true ↔ ∀ i : Nat, (i : Int) < p.len → abit p.a i = abit a i := by
  have h0 := hp.lo
  have h1 := hp.hi
  unfold rpMatch
  rw [clamp_id hp.lo hp.hi, allTo_iff]
  constructor
  · intro h i hi
    have := h i (by omega)
    unfold eqP at this
    simpa using this
  · intro h i hi
    unfold eqP
    rw [h i (by omega)]
    simp
theorem cmp_less {a b : A2} (ha : a.ok) (hb : b.ok) {k : Nat} (hk : k < 128) (he : ∀ i, i < k → abit a i = abit b i) (h0 : abit a k = false) (h1 : abit b k = true) : aCompare a b = -1 := by
  have h := (cmp_bits ha hb (k := k) (by omega) ((allTo_iff _ _).2 fun i hi => by unfold eqP; rw [he i hi]; simp)).2 hk (by rw [h0, h1]; simp)
  rw [h, h1]; rfl
theorem cmp_more {a b : A2} (ha : a.ok) (hb : b.ok) {k : Nat} (hk : k < 128) (he : ∀ i, i < k → abit a i = abit b i) (h0 : abit a k = true) (h1 : abit b k = false) : aCompare a b = 1 := by
  have h := (cmp_bits ha hb (k := k) (by omega) ((allTo_iff _ _).2 fun i hi => by unfold eqP; rw [he i hi]; simp)).2 hk (by rw [h0, h1]; simp)
  rw [h, h1]; rfl
theorem cmp_is (a b : A2) : (aCompare a b < 0 ↔ a.x < b.x ∨ a.x = b.x ∧ a.y < b.y) ∧ (aCompare a b = 0 ↔ a.x = b.x ∧ a.y = b.y) ∧ (0 < aCompare a b ↔ b.x < a.x ∨ a.x = b.x ∧ b.y < a.y) := by
  unfold aCompare
  repeat' split
  all_goals refine ⟨?_, ?_, ?_⟩ <;> constructor <;> intro h <;> omega
theorem pcmp_is (p q : Pfx) : (pCmp p q < 0 ↔ p.a.x < q.a.x ∨ p.a.x = q.a.x ∧ (p.a.y < q.a.y ∨ p.a.y = q.a.y ∧ p.len < q.len)) ∧ (0 < pCmp p q ↔ q.a.x < p.a.x ∨ p.a.x = q.a.x ∧ (q.a.y < p.a.y ∨ p.a.y = q.a.y ∧ q.len < p.len)) := by
  obtain ⟨h1, h2, h3⟩ := cmp_is p.a q.a
  unfold pCmp
  generalize aCompare p.a q.a = c at *
  by_cases e : c = 0
  · rw [if_pos e]
    obtain ⟨e1, e2⟩ := h2.1 e
    split
    · omega
    · split <;> omega
  · rw [if_neg e]
    have hn : ¬ (p.a.x = q.a.x ∧ p.a.y = q.a.y) := fun h => e (h2.2 h)
    omega
def pLt (p q : Pfx) : Prop := pCmp p q < 0
theorem pLt.trans {p q r : Pfx} (h1 : pLt p q) (h2 : pLt q r) : pLt p r := by
  unfold pLt at *
  rw [(pcmp_is _ _).1] at *
  omega
theorem pLt.ne {p q : Pfx} (h : pLt p q) : p ≠ q := fun e => by
  subst e
  unfold pLt at h
  rw [(pcmp_is _ _).1] at h
  omega
theorem pLt.asymm {p q : Pfx} (h : pLt p q) (h2 : pLt q p) : False := by
  unfold pLt at *
  rw [(pcmp_is _ _).1] at *
  omega
theorem pLt_or {p q : Pfx} (h : p ≠ q) : pLt p q ∨ pLt q p := by
  unfold pLt
  rw [(pcmp_is p q).1, (pcmp_is q p).1]
  obtain ⟨⟨a, b⟩, l⟩ := p
  obtain ⟨⟨c, d⟩, m⟩ := q
  dsimp only
  have : ¬ (a = c ∧ b = d ∧ l = m) := fun ⟨h1, h2, h3⟩ => h (by rw [h1, h2, h3])
  omega
theorem pcmp_pos {p q : Pfx} : 0 < pCmp p q ↔ pLt q p := by
  unfold pLt
  rw [(pcmp_is p q).2, (pcmp_is q p).1]
  omega
def PCov (p q : Pfx) : Prop := p.len ≤ q.len ∧ rpMatch p q.a = true
theorem PCov.refl {p : Pfx} (h : Canon p) : PCov p p := ⟨Int.le_refl _, (rpm_iff h).2 fun _ _ => rfl⟩
theorem PCov.trans {p q r : Pfx} (hp : Canon p) (hq : Canon q) (h1 : PCov p q) (h2 : PCov q r) : PCov p r := by
  refine ⟨Int.le_trans h1.1 h2.1, (rpm_iff hp).2 fun i hi => ?_⟩
  rw [(rpm_iff hp).1 h1.2 i hi, (rpm_iff hq).1 h2.2 i (by have := h1.1; omega)]
theorem PCov.match' {p q : Pfx} {a : A2} (hp : Canon p) (hq : Canon q) (h1 : PCov p q) (h2 : rpMatch q a = true) : rpMatch p a = true := by
  refine (rpm_iff hp).2 fun i hi => ?_
  rw [(rpm_iff hp).1 h1.2 i hi, (rpm_iff hq).1 h2 i (by have := h1.1; omega)]
theorem cov_of_match {p q : Pfx} {a : A2} (hp : Canon p) (hq : Canon q) (hl : p.len ≤ q.len) (h1 : rpMatch p a = true) (h2 : rpMatch q a = true) : PCov p q :=
  ⟨hl, (rpm_iff hp).2 fun i hi => by rw [(rpm_iff hp).1 h1 i hi, (rpm_iff hq).1 h2 i (by omega)]⟩
theorem same_match {p q : Pfx} {a : A2} (hp : Canon p) (hq : Canon q) (hl : p.len = q.len) (h1 : rpMatch p a = true) (h2 : rpMatch q a = true) : p = q := by
  have : p.a = q.a := ok_ext hp.ok hq.ok fun i hi => by
    by_cases h : (i : Int) < p.len
    · rw [(rpm_iff hp).1 h1 i h, (rpm_iff hq).1 h2 i (by omega)]
    · rw [hp.zero i hi (by omega), hq.zero i hi (by omega)]
  obtain ⟨a1, l1⟩ := p
  obtain ⟨a2, l2⟩ := q
  dsimp only at this hl
  rw [this, hl]
theorem same_cov {p q : Pfx} (hp : Canon p) (hq : Canon q) (hl : p.len = q.len) (h1 : PCov p q) : p = q := same_match hp hq hl h1.2 (PCov.refl hq).2
theorem cov_lt {p q : Pfx} (hp : Canon p) (hq : Canon q) (h : PCov p q) (hne : p ≠ q) : pLt p q := by
  obtain ⟨h1, h2, h3⟩ := common_spec hp.ok hq.ok
  rw [allTo_iff] at h2
  have he : ∀ i, i < aCommon p.a q.a → abit p.a i = abit q.a i := fun i hi => by have := h2 i hi; unfold eqP at this; simpa using this
  have hm := (rpm_iff hp).1 h.2
  unfold pLt pCmp
  by_cases hk : aCommon p.a q.a < 128
  · have hd := h3 hk
    have hge : p.len ≤ (aCommon p.a q.a : Int) := by
      refine Classical.byContradiction fun hc => hd (hm _ (by omega))
    have h0 := hp.zero _ hk hge
    have h1' : abit q.a (aCommon p.a q.a) = true := by rw [h0] at hd; simpa using hd
    rw [cmp_less hp.ok hq.ok hk he h0 h1']
    simp
  · have ea : p.a = q.a := ok_ext hp.ok hq.ok fun i hi => he i (by omega)
    have e0 : aCompare p.a q.a = 0 := (cmp_is _ _).2.1.2 (by rw [ea]; exact ⟨rfl, rfl⟩)
    have hl : p.len ≠ q.len := fun e => hne (by
      obtain ⟨a1, l1⟩ := p
      obtain ⟨a2, l2⟩ := q
      dsimp only at ea e
      rw [ea, e])
    have := h.1
    rw [if_pos e0, if_pos (by omega)]
    decide
theorem cov_between {p q r : Pfx} (hp : Canon p) (hq : Canon q) (hr : Canon r) (h1 : pLt p q) (h2 : pLt q r) (h : PCov p r) : PCov p q := by
  have hm := (rpm_iff hp).1 h.2
  have key : ∀ i : Nat, (i : Int) < p.len → abit p.a i = abit q.a i := by
    refine Classical.byContradiction fun hc => ?_
    obtain ⟨c1, c2, c3⟩ := common_spec hp.ok hq.ok
    rw [allTo_iff] at c2
    have he : ∀ i, i < aCommon p.a q.a → abit p.a i = abit q.a i := fun i hi => by have := c2 i hi; unfold eqP at this; simpa using this
    have hk : (aCommon p.a q.a : Int) < p.len := by
      refine Classical.byContradiction fun hge => hc fun i hi => he i (by omega)
    have hhi := hp.hi
    have hk2 : aCommon p.a q.a < 128 := by omega
    have hd := c3 hk2
    cases hb : abit p.a (aCommon p.a q.a) with
    | true =>
      have hb2 : abit q.a (aCommon p.a q.a) = false := by rw [hb] at hd; simpa using hd.symm
      have := cmp_more hp.ok hq.ok hk2 he hb hb2
      unfold pLt pCmp at h1
      rw [this] at h1
      simp at h1
    | false =>
      have hb2 : abit q.a (aCommon p.a q.a) = true := by rw [hb] at hd; simpa using hd
      have hr2 : abit r.a (aCommon p.a q.a) = false := by rw [← hm _ hk]; exact hb
      have := cmp_more hq.ok hr.ok hk2 (fun i hi => by rw [← he i hi, hm i (by omega)]) hb2 hr2
      unfold pLt pCmp at h2
      rw [this] at h2
      simp at h2
  refine ⟨?_, (rpm_iff hp).2 key⟩
  refine Classical.byContradiction fun hc => ?_
  have ea : p.a = q.a := ok_ext hp.ok hq.ok fun i hi => by
    by_cases h : (i : Int) < p.len
    · exact key i h
    · rw [hp.zero i hi (by omega), hq.zero i hi (by omega)]
  unfold pLt pCmp at h1
  rw [if_pos ((cmp_is _ _).2.1.2 (by rw [ea]; exact ⟨rfl, rfl⟩)), if_neg (by omega), if_pos (by omega)] at h1
  omega
/-! ### Tables -/
structure TableR (rs : List Rte) : Prop where
  canon : ∀ r ∈ rs, Canon r.p
  act : ∀ r ∈ rs, 1 ≤ r.act ∧ r.act ≤ 255
  sorted : rs.Pairwise fun x y => pLt x.p y.p
theorem sorted_eq : ∀ {xs ys : List Rte}, xs.Pairwise (fun x y => pLt x.p y.p) → ys.Pairwise (fun x y => pLt x.p y.p) → (∀ r, r ∈ xs ↔ r ∈ ys) → xs = ys
  | [], [], _, _, _ => rfl
  | [], y :: ys, _, _, h => by cases (h y).2 List.mem_cons_self
  | x :: xs, [], _, _, h => by cases (h x).1 List.mem_cons_self
  | x :: xs, y :: ys, hx, hy, h => by
    obtain ⟨hx1, hx2⟩ := List.pairwise_cons.1 hx
    obtain ⟨hy1, hy2⟩ := List.pairwise_cons.1 hy
    have e : x = y := by
      rcases List.mem_cons.1 ((h x).1 List.mem_cons_self) with e | hm
      · exact e
      · rcases List.mem_cons.1 ((h y).2 List.mem_cons_self) with e | hm2
        · exact e.symm
        · exact ((hy1 x hm).asymm (hx1 y hm2)).elim
    subst e
    rw [sorted_eq hx2 hy2 fun r => ⟨fun hr => ?_, fun hr => ?_⟩]
    · rcases List.mem_cons.1 ((h r).1 (List.mem_cons_of_mem _ hr)) with e | hm
      · exact ((hx1 r hr).ne (by rw [e])).elim
      · exact hm
    · rcases List.mem_cons.1 ((h r).2 (List.mem_cons_of_mem _ hr)) with e | hm
      · exact ((hy1 r hr).ne (by rw [e])).elim
      · exact hm
theorem sorted_same {xs : List Rte} (h : xs.Pairwise fun x y => pLt x.p y.p) {r s : Rte} (hr : r ∈ xs) (hs : s ∈ xs) (e : r.p = s.p) : r = s := by
  refine Classical.byContradiction fun hne => ?_
  obtain ⟨i, hi, rfl⟩ := List.mem_iff_getElem.1 hr
  obtain ⟨j, hj, rfl⟩ := List.mem_iff_getElem.1 hs
  rcases Nat.lt_trichotomy i j with h1 | h1 | h1
  · exact ((List.pairwise_iff_getElem.1 h) i j hi hj h1).ne e
  · subst h1; exact hne rfl
  · exact ((List.pairwise_iff_getElem.1 h) j i hj hi h1).ne e.symm
structure IsCover (S : List Rte) (p : Pfx) (c : Rte) : Prop where
  mem : c ∈ S
  short : c.p.len < p.len
  hit : rpMatch c.p p.a = true
  near : ∀ d ∈ S, d.p.len < p.len → rpMatch d.p p.a = true → d.p.len ≤ c.p.len
theorem IsCover.uniq {rs S : List Rte} (ht : TableR rs) (hS : ∀ r ∈ S, r ∈ rs) {p : Pfx} {c d : Rte} (h1 : IsCover S p c) (h2 : IsCover S p d) : c = d := by
  have e1 := h1.near d h2.mem h2.short h2.hit
  have e2 := h2.near c h1.mem h1.short h1.hit
  exact sorted_same ht.sorted (hS c h1.mem) (hS d h2.mem) (same_match (ht.canon c (hS c h1.mem)) (ht.canon d (hS d h2.mem)) (by omega) h1.hit h2.hit)
structure Kept (rs S : List Rte) : Prop where
  sub : ∀ r ∈ S, r ∈ rs
  sorted : S.Pairwise fun x y => pLt x.p y.p
  iff : ∀ r ∈ rs, (r ∈ S ↔ ∀ c, IsCover S r.p c → c.act ≠ r.act)
theorem IsCover.congr {S T : List Rte} {p : Pfx} {c : Rte} (h : ∀ d : Rte, d.p.len < p.len → (d ∈ S ↔ d ∈ T)) : IsCover S p c ↔ IsCover T p c :=
  ⟨fun ⟨a, b, e, f⟩ => ⟨(h c b).1 a, b, e, fun d hd hl => f d ((h d hl).2 hd) hl⟩, fun ⟨a, b, e, f⟩ => ⟨(h c b).2 a, b, e, fun d hd hl => f d ((h d hl).1 hd) hl⟩⟩
theorem Kept.uniq {rs S T : List Rte} (ht : TableR rs) (h1 : Kept rs S) (h2 : Kept rs T) : S = T := by
  have key : ∀ n : Nat, ∀ r : Rte, r.p.len < n → (r ∈ S ↔ r ∈ T) := by
    intro n
    induction n with
    | zero =>
      intro r hr
      exact ⟨fun h => by have := (ht.canon r (h1.sub r h)).lo; omega, fun h => by have := (ht.canon r (h2.sub r h)).lo; omega⟩
    | succ n ih =>
      intro r hr
      have hc : ∀ c, IsCover S r.p c ↔ IsCover T r.p c := fun c => IsCover.congr fun d hd => ih d (by omega)
      by_cases hm : r ∈ rs
      · rw [h1.iff r hm, h2.iff r hm]
        exact ⟨fun h c hq => h c ((hc c).2 hq), fun h c hq => h c ((hc c).1 hq)⟩
      · exact ⟨fun h => absurd (h1.sub r h) hm, fun h => absurd (h2.sub r h) hm⟩
  exact sorted_eq h1.sorted h2.sorted fun r => ⟨fun h => (key 129 r (by have := (ht.canon r (h1.sub r h)).hi; omega)).1 h, fun h => (key 129 r (by have := (ht.canon r (h2.sub r h)).hi; omega)).2 h⟩
end Go.Proofs.YtjmnnkhdadoehaaGreat

/- The routes of a table that say something new: by a row of those that are open, and length by length; in plain Lean. -/
namespace Go.Proofs.YtjmnnkhdadoehaaGreat
set_option linter.unusedSimpArgs false
set_option linter.unusedVariables false
open Go
theorem TableR.take {rs : List Rte} (h : TableR rs) (n : Nat) : TableR (rs.take n) :=
  ⟨fun r hr => h.canon r (List.mem_of_mem_take hr), fun r hr => h.act r (List.mem_of_mem_take hr), h.sorted.sublist (List.take_sublist _ _)⟩
theorem TableR.before {rs : List Rte} (h : TableR rs) {i : Nat} (hi : i < rs.length) {c : Rte} (hc : c ∈ rs.take i) : pLt c.p rs[i].p := by
  obtain ⟨j, hj, rfl⟩ := List.mem_iff_getElem.1 hc
  have hj' : j < i := by rw [List.length_take] at hj; omega
  rw [List.getElem_take]
  exact (List.pairwise_iff_getElem.1 h.sorted) j i (by omega) hi hj'
theorem TableR.after {rs : List Rte} (h : TableR rs) {i : Nat} (hi : i < rs.length) {c : Rte} (hc : c ∈ rs.drop (i + 1)) : pLt rs[i].p c.p := by
  obtain ⟨j, hj, rfl⟩ := List.mem_iff_getElem.1 hc
  rw [List.length_drop] at hj
  rw [List.getElem_drop]
  exact (List.pairwise_iff_getElem.1 h.sorted) i (i + 1 + j) hi (by omega) (by omega)
structure Run (rs : List Rte) (i : Nat) (op out : List Rte) : Prop where
  kept : Kept (rs.take i) out
  chain : op.Pairwise fun x y => x.p.len < y.p.len ∧ PCov x.p y.p
  sub : ∀ c ∈ op, c ∈ out
  alive : ∀ c ∈ out, ∀ r ∈ rs.drop i, PCov c.p r.p → c ∈ op
theorem Run.start (rs : List Rte) : Run rs 0 [] [] :=
  ⟨⟨fun r h => (by cases h), List.Pairwise.nil, fun r h => (by cases h)⟩, List.Pairwise.nil, fun c h => (by cases h), fun c h => (by cases h)⟩
theorem take_succ_mem {rs : List Rte} {i : Nat} (hi : i < rs.length) {r : Rte} : r ∈ rs.take (i + 1) ↔ r ∈ rs.take i ∨ r = rs[i] := by
  rw [List.take_succ_eq_append_getElem hi, List.mem_append, List.mem_singleton]
theorem Run.top {rs : List Rte} (ht : TableR rs) {i : Nat} {op out : List Rte} (h : Run rs i op out) (hi : i < rs.length) {m : Nat} (hm : m ≤ op.length)
    (hno : ∀ (j : Nat) (hj : j < op.length), m ≤ j → ¬ PCov op[j].p rs[i].p) (hyes : ∀ h0 : 0 < m, PCov (op[m - 1]'(by omega)).p rs[i].p) :
    (∀ h0 : 0 < m, IsCover out rs[i].p (op[m - 1]'(by omega))) ∧ (m = 0 → ∀ c, ¬ IsCover out rs[i].p c) ∧ ∀ c ∈ out, PCov c.p rs[i].p → c ∈ op.take m := by
  have hcr := ht.canon _ (List.getElem_mem hi)
  have hco : ∀ c ∈ out, Canon c.p := fun c hc => ht.canon c (List.mem_of_mem_take (h.kept.sub c hc))
  have hdi : rs[i] ∈ rs.drop i := by
    rw [List.drop_eq_getElem_cons hi]; exact List.mem_cons_self
  have hin : ∀ c ∈ out, PCov c.p rs[i].p → ∃ (j : Nat) (hj : j < op.length), j < m ∧ op[j] = c := fun c hc hcov => by
    obtain ⟨j, hj, e⟩ := List.mem_iff_getElem.1 (h.alive c hc _ hdi hcov)
    refine ⟨j, hj, ?_, e⟩
    refine Classical.byContradiction fun hge => hno j hj (by omega) ?_
    rw [e]; exact hcov
  refine ⟨fun h0 => ⟨h.sub _ (List.getElem_mem _), ?_, (hyes h0).2, fun d hd hl hdm => ?_⟩, fun e c hc => ?_, fun c hc hcov => ?_⟩
  · have hy := hyes h0
    have hmem := h.sub _ (List.getElem_mem (show m - 1 < op.length by omega))
    refine Classical.byContradiction fun hge => ?_
    have e := same_cov (hco _ hmem) hcr (by have := hy.1; omega) hy
    exact (ht.before hi (h.kept.sub _ hmem)).ne e
  · obtain ⟨j, hj, hjm, rfl⟩ := hin d hd ⟨by omega, hdm⟩
    by_cases e : j = m - 1
    · subst e; exact Int.le_refl _
    · have := ((List.pairwise_iff_getElem.1 h.chain) j (m - 1) hj (by omega) (by omega)).1
      omega
  · have := hc.short
    obtain ⟨j, hj, hjm, _⟩ := hin c hc.mem ⟨by omega, hc.hit⟩
    omega
  · obtain ⟨j, hj, hjm, rfl⟩ := hin c hc hcov
    rw [List.mem_iff_getElem]
    exact ⟨j, by rw [List.length_take]; omega, by rw [List.getElem_take]⟩
theorem Run.skip {rs : List Rte} (ht : TableR rs) {i : Nat} {op out : List Rte} (h : Run rs i op out) (hi : i < rs.length) {m : Nat} (hm : m ≤ op.length) (h0 : 0 < m)
    (hno : ∀ (j : Nat) (hj : j < op.length), m ≤ j → ¬ PCov op[j].p rs[i].p) (hyes : PCov (op[m - 1]'(by omega)).p rs[i].p) (hact : (op[m - 1]'(by omega)).act = rs[i].act) : Run rs (i + 1) (op.take m) out := by
  obtain ⟨t1, _, t3⟩ := h.top ht hi hm hno fun _ => hyes
  have hnot : rs[i] ∉ out := fun hc => (ht.before hi (h.kept.sub _ hc)).ne rfl
  refine ⟨⟨fun r hr => (take_succ_mem hi).2 (.inl (h.kept.sub r hr)), h.kept.sorted, fun r hr => ?_⟩, h.chain.sublist (List.take_sublist _ _), fun c hc => h.sub c (List.mem_of_mem_take hc), fun c hc r hr hcov => ?_⟩
  · rcases (take_succ_mem hi).1 hr with hr | rfl
    · exact h.kept.iff r hr
    · exact ⟨fun hc => absurd hc hnot, fun hc => absurd hact (hc _ (t1 h0))⟩
  · refine t3 c hc (cov_between (ht.canon c (List.mem_of_mem_take (h.kept.sub c hc))) (ht.canon _ (List.getElem_mem hi)) (ht.canon r (List.mem_of_mem_drop hr)) (ht.before hi (h.kept.sub c hc)) (ht.after hi hr) hcov)
theorem Run.put {rs : List Rte} (ht : TableR rs) {i : Nat} {op out : List Rte} (h : Run rs i op out) (hi : i < rs.length) {m : Nat} (hm : m ≤ op.length)
    (hno : ∀ (j : Nat) (hj : j < op.length), m ≤ j → ¬ PCov op[j].p rs[i].p) (hyes : ∀ h0 : 0 < m, PCov (op[m - 1]'(by omega)).p rs[i].p ∧ (op[m - 1]'(by omega)).act ≠ rs[i].act) : Run rs (i + 1) (op.take m ++ [rs[i]]) (out ++ [rs[i]]) := by
  obtain ⟨t1, t2, t3⟩ := h.top ht hi hm hno fun h0 => (hyes h0).1
  have hcr := ht.canon _ (List.getElem_mem hi)
  have hco : ∀ c ∈ out, Canon c.p := fun c hc => ht.canon c (List.mem_of_mem_take (h.kept.sub c hc))
  have hnot : rs[i] ∉ out := fun hc => (ht.before hi (h.kept.sub _ hc)).ne rfl
  -- one behind covers none of those ahead
  have hcon : ∀ r ∈ rs.take (i + 1), ∀ c, IsCover (out ++ [rs[i]]) r.p c ↔ IsCover out r.p c := fun r hr c => by
    have hcan := ht.canon r (List.mem_of_mem_take hr)
    have key : ∀ d : Rte, d = rs[i] → d.p.len < r.p.len → rpMatch d.p r.p.a = true → False := fun d e hl hdm => by
      subst e
      rcases (take_succ_mem hi).1 hr with hr | rfl
      · exact (cov_lt hcr hcan ⟨by omega, hdm⟩ (fun e => by rw [e] at hl; omega)).asymm (ht.before hi hr)
      · omega
    constructor
    · rintro ⟨a, b, e, f⟩
      rcases List.mem_append.1 a with a | a
      · exact ⟨a, b, e, fun d hd => f d (List.mem_append_left _ hd)⟩
      · exact (key c (List.mem_singleton.1 a) b e).elim
    · rintro ⟨a, b, e, f⟩
      refine ⟨List.mem_append_left _ a, b, e, fun d hd hl hdm => ?_⟩
      rcases List.mem_append.1 hd with hd | hd
      · exact f d hd hl hdm
      · exact (key d (List.mem_singleton.1 hd) hl hdm).elim
  refine ⟨⟨fun r hr => ?_, ?_, fun r hr => ?_⟩, ?_, fun c hc => ?_, fun c hc r hr hcov => ?_⟩
  · rw [take_succ_mem hi]
    rcases List.mem_append.1 hr with hr | hr
    · exact .inl (h.kept.sub r hr)
    · exact .inr (List.mem_singleton.1 hr)
  · rw [List.pairwise_append]
    exact ⟨h.kept.sorted, List.pairwise_singleton _ _, fun x hx y hy => by rw [List.mem_singleton.1 hy]; exact ht.before hi (h.kept.sub x hx)⟩
  · rw [List.mem_append, List.mem_singleton]
    have hcon := hcon r hr
    rcases (take_succ_mem hi).1 hr with hr' | rfl
    · have hne : r ≠ rs[i] := fun e => (ht.before hi hr').ne (by rw [e])
      constructor
      · rintro (hc | hc)
        · exact fun c hq => (h.kept.iff r hr').1 hc c ((hcon c).1 hq)
        · exact absurd hc hne
      · exact fun hq => .inl ((h.kept.iff r hr').2 fun c hc => hq c ((hcon c).2 hc))
    · refine ⟨fun _ c hc => ?_, fun _ => .inr rfl⟩
      have hc := (hcon c).1 hc
      by_cases h0 : 0 < m
      · rw [IsCover.uniq (ht.take i) h.kept.sub hc (t1 h0)]
        exact (hyes h0).2
      · exact absurd hc (t2 (by omega) c)
  · rw [List.pairwise_append]
    refine ⟨h.chain.sublist (List.take_sublist _ _), List.pairwise_singleton _ _, fun x hx y hy => ?_⟩
    rw [List.mem_singleton.1 hy]
    obtain ⟨j, hj, rfl⟩ := List.mem_iff_getElem.1 hx
    rw [List.length_take] at hj
    have h0 : 0 < m := by omega
    have ht1 := t1 h0
    rw [List.getElem_take]
    by_cases e : j = m - 1
    · subst e
      exact ⟨ht1.short, (hyes h0).1⟩
    · obtain ⟨c1, c2⟩ := (List.pairwise_iff_getElem.1 h.chain) j (m - 1) (by omega) (by omega) (by omega)
      have hs := ht1.short
      exact ⟨by omega, PCov.trans (hco _ (h.sub _ (List.getElem_mem _))) (hco _ (h.sub _ (List.getElem_mem _))) c2 (hyes h0).1⟩
  · rcases List.mem_append.1 hc with hc | hc
    · exact List.mem_append_left _ (h.sub c (List.mem_of_mem_take hc))
    · exact List.mem_append_right _ hc
  · rcases List.mem_append.1 hc with hc | hc
    · exact List.mem_append_left _ (t3 c hc (cov_between (hco c hc) hcr (ht.canon r (List.mem_of_mem_drop hr)) (ht.before hi (h.kept.sub c hc)) (ht.after hi hr) hcov))
    · exact List.mem_append_right _ hc
theorem pop_exists (op : List Rte) (p : Pfx) : ∃ m, m ≤ op.length ∧ (∀ (j : Nat) (hj : j < op.length), m ≤ j → ¬ PCov op[j].p p) ∧ ∀ (h0 : 0 < m) (h1 : m - 1 < op.length), PCov op[m - 1].p p := by
  suffices H : ∀ n, n ≤ op.length → (∀ (j : Nat) (hj : j < op.length), n ≤ j → ¬ PCov op[j].p p) → ∃ m, m ≤ op.length ∧ (∀ (j : Nat) (hj : j < op.length), m ≤ j → ¬ PCov op[j].p p) ∧ ∀ (h0 : 0 < m) (h1 : m - 1 < op.length), PCov op[m - 1].p p from
    H op.length (Nat.le_refl _) fun j hj h => by omega
  intro n
  induction n with
  | zero => exact fun _ h => ⟨0, by omega, h, fun h0 => by omega⟩
  | succ n ih =>
    intro hn h
    by_cases hc : PCov (op[n]'(by omega)).p p
    · exact ⟨n + 1, hn, h, fun _ _ => hc⟩
    · refine ih (by omega) fun j hj hle => ?_
      by_cases e : j = n
      · subst e; exact hc
      · exact h j hj (by omega)
theorem run_exists {rs : List Rte} (ht : TableR rs) : ∀ i, i ≤ rs.length → ∃ op out, Run rs i op out
  | 0, _ => ⟨[], [], Run.start rs⟩
  | i + 1, hi => by
    obtain ⟨op, out, h⟩ := run_exists ht i (by omega)
    have hi' : i < rs.length := by omega
    obtain ⟨m, hm, hno, hyes⟩ := pop_exists op rs[i].p
    by_cases hk : ∃ h0 : 0 < m, (op[m - 1]'(by omega)).act = rs[i].act
    · obtain ⟨h0, hk⟩ := hk
      exact ⟨_, _, h.skip ht hi' hm h0 hno (hyes h0 (by omega)) hk⟩
    · exact ⟨_, _, h.put ht hi' hm hno fun h0 => ⟨hyes h0 (by omega), fun e => hk ⟨h0, e⟩⟩⟩
theorem Run.done {rs : List Rte} {op out : List Rte} (h : Run rs rs.length op out) : Kept rs out := by
  have := h.kept
  rwa [List.take_length] at this
theorem kept_exists {rs : List Rte} (ht : TableR rs) : ∃ S, Kept rs S := by
  obtain ⟨op, out, h⟩ := run_exists ht rs.length (Nat.le_refl _)
  exact ⟨out, h.done⟩
open Classical in
noncomputable def keepR (rs : List Rte) : List Rte := if h : ∃ S, Kept rs S then h.choose else []
theorem keepR_spec {rs : List Rte} (ht : TableR rs) : Kept rs (keepR rs) := by
  unfold keepR
  rw [dif_pos (kept_exists ht)]
  exact (kept_exists ht).choose_spec
theorem keepR_is {rs S : List Rte} (ht : TableR rs) (h : Kept rs S) : keepR rs = S := Kept.uniq ht (keepR_spec ht) h
/-! ### Length by length -/
structure RunL (rs : List Rte) (n i : Nat) (kept : List Rte) : Prop where
  sorted : kept.Pairwise fun x y => pLt x.p y.p
  iff : ∀ r, r ∈ kept ↔ r ∈ keepR rs ∧ (r.p.len < n ∨ r.p.len = n ∧ r ∈ rs.take i)
theorem RunL.next {rs : List Rte} (ht : TableR rs) {n : Nat} {kept : List Rte} (h : RunL rs n rs.length kept) : RunL rs (n + 1) 0 kept := ⟨h.sorted, fun r => by
  rw [h.iff r, List.take_length]
  constructor
  · rintro ⟨a, b⟩
    exact ⟨a, .inl (by rcases b with b | b <;> omega)⟩
  · rintro ⟨a, b⟩
    refine ⟨a, ?_⟩
    have hr := (keepR_spec ht).sub r a
    rcases b with b | ⟨_, b⟩
    · by_cases e : r.p.len < n
      · exact .inl e
      · exact .inr ⟨by omega, hr⟩
    · simp at b⟩
theorem RunL.other {rs : List Rte} {n i : Nat} {kept : List Rte} (h : RunL rs n i kept) (hi : i < rs.length) (hl : rs[i].p.len ≠ n) : RunL rs n (i + 1) kept := ⟨h.sorted, fun r => by
  rw [h.iff r, take_succ_mem hi]
  constructor
  · rintro ⟨a, b | ⟨b, c⟩⟩
    · exact ⟨a, .inl b⟩
    · exact ⟨a, .inr ⟨b, .inl c⟩⟩
  · rintro ⟨a, b | ⟨b, c | c⟩⟩
    · exact ⟨a, .inl b⟩
    · exact ⟨a, .inr ⟨b, c⟩⟩
    · subst c; exact absurd b hl⟩
theorem RunL.cover {rs : List Rte} {n i : Nat} {kept : List Rte} (h : RunL rs n i kept) {p : Pfx} (hp : p.len = n) {c : Rte} : IsCover kept p c ↔ IsCover (keepR rs) p c := IsCover.congr fun d hd => by
  rw [h.iff d]
  exact ⟨fun q => q.1, fun q => ⟨q, .inl (by omega)⟩⟩
theorem RunL.drop {rs : List Rte} (ht : TableR rs) {n i : Nat} {kept : List Rte} (h : RunL rs n i kept) (hi : i < rs.length) (hl : rs[i].p.len = n) {c : Rte} (hc : IsCover kept rs[i].p c) (ha : c.act = rs[i].act) : RunL rs n (i + 1) kept := ⟨h.sorted, fun r => by
  have hnot : rs[i] ∉ keepR rs := fun hm => ((keepR_spec ht).iff _ (List.getElem_mem hi)).1 hm c ((h.cover hl).1 hc) ha
  rw [h.iff r, take_succ_mem hi]
  constructor
  · rintro ⟨a, b | ⟨b, c⟩⟩
    · exact ⟨a, .inl b⟩
    · exact ⟨a, .inr ⟨b, .inl c⟩⟩
  · rintro ⟨a, b | ⟨b, c | c⟩⟩
    · exact ⟨a, .inl b⟩
    · exact ⟨a, .inr ⟨b, c⟩⟩
    · subst c; exact absurd a hnot⟩
def putR (l : List Rte) (r : Rte) : List Rte := (l.takeWhile fun x => decide (pCmp x.p r.p ≤ 0)) ++ r :: (l.dropWhile fun x => decide (pCmp x.p r.p ≤ 0))
theorem putR_mem {l : List Rte} {r x : Rte} : x ∈ putR l r ↔ x = r ∨ x ∈ l := by
  unfold putR
  have : x ∈ l ↔ x ∈ (l.takeWhile fun x => decide (pCmp x.p r.p ≤ 0)) ∨ x ∈ (l.dropWhile fun x => decide (pCmp x.p r.p ≤ 0)) := by
    rw [← List.mem_append, List.takeWhile_append_dropWhile]
  rw [List.mem_append, List.mem_cons, this]
  constructor
  · rintro (h | h | h)
    · exact .inr (.inl h)
    · exact .inl h
    · exact .inr (.inr h)
  · rintro (h | h | h)
    · exact .inr (.inl h)
    · exact .inl h
    · exact .inr (.inr h)
theorem putR_sorted {r : Rte} : ∀ {l : List Rte}, l.Pairwise (fun x y => pLt x.p y.p) → (∀ x ∈ l, x.p ≠ r.p) → (putR l r).Pairwise fun x y => pLt x.p y.p
  | [], _, _ => List.pairwise_singleton _ _
  | x :: l, h, hne => by
    obtain ⟨h1, h2⟩ := List.pairwise_cons.1 h
    have hx := hne x List.mem_cons_self
    by_cases hc : pCmp x.p r.p ≤ 0
    · have e : putR (x :: l) r = x :: putR l r := by
        unfold putR
        rw [List.takeWhile_cons_of_pos (by simpa using hc), List.dropWhile_cons_of_pos (by simpa using hc), List.cons_append]
      rw [e]
      refine List.pairwise_cons.2 ⟨fun y hy => ?_, putR_sorted h2 fun y hy => hne y (List.mem_cons_of_mem _ hy)⟩
      rcases putR_mem.1 hy with rfl | hy
      · rcases pLt_or hx with h | h
        · exact h
        · have := pcmp_pos.2 h; omega
      · exact h1 y hy
    · have e : putR (x :: l) r = r :: x :: l := by
        unfold putR
        rw [List.takeWhile_cons_of_neg (by simpa using hc), List.dropWhile_cons_of_neg (by simpa using hc), List.nil_append]
      rw [e]
      have hlt : pLt r.p x.p := pcmp_pos.1 (by omega)
      refine List.pairwise_cons.2 ⟨fun y hy => ?_, h⟩
      rcases List.mem_cons.1 hy with rfl | hy
      · exact hlt
      · exact hlt.trans (h1 y hy)
theorem RunL.put {rs : List Rte} (ht : TableR rs) {n i : Nat} {kept : List Rte} (h : RunL rs n i kept) (hi : i < rs.length) (hl : rs[i].p.len = n) (hc : ∀ c, IsCover kept rs[i].p c → c.act ≠ rs[i].act) : (∀ x ∈ kept, x.p ≠ rs[i].p) ∧ RunL rs n (i + 1) (putR kept rs[i]) := by
  have hk : rs[i] ∈ keepR rs := ((keepR_spec ht).iff _ (List.getElem_mem hi)).2 fun c hq => hc c ((h.cover hl).2 hq)
  have hne : ∀ x ∈ kept, x.p ≠ rs[i].p := fun x hx e => by
    obtain ⟨a, b⟩ := (h.iff x).1 hx
    have e2 := sorted_same ht.sorted ((keepR_spec ht).sub x a) (List.getElem_mem hi) e
    rcases b with b | ⟨_, b⟩
    · rw [e] at b; omega
    · exact (ht.before hi b).ne e
  refine ⟨hne, putR_sorted h.sorted hne, fun r => ?_⟩
  rw [putR_mem, h.iff r, take_succ_mem hi]
  constructor
  · rintro (rfl | ⟨a, b | ⟨b, c⟩⟩)
    · exact ⟨hk, .inr ⟨hl, .inr rfl⟩⟩
    · exact ⟨a, .inl b⟩
    · exact ⟨a, .inr ⟨b, .inl c⟩⟩
  · rintro ⟨a, b | ⟨b, c | c⟩⟩
    · exact .inr ⟨a, .inl b⟩
    · exact .inr ⟨a, .inr ⟨b, c⟩⟩
    · exact .inl c
theorem RunL.done {rs : List Rte} (ht : TableR rs) {kept : List Rte} (h : RunL rs 129 0 kept) : kept = keepR rs :=
  sorted_eq h.sorted (keepR_spec ht).sorted fun r => by
    rw [h.iff r]
    exact ⟨fun q => q.1, fun q => ⟨q, .inl (by have := (ht.canon r ((keepR_spec ht).sub r q)).hi; omega)⟩⟩
end Go.Proofs.YtjmnnkhdadoehaaGreat
