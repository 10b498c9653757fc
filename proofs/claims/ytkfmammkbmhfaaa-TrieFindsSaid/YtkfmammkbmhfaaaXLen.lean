/- What LeadingZeros64 does; how many bits are alike; what prefixes match, in plain Lean. -/
import Derived.Test.YtkfmammkbmhfaaaXLaidB
import Derived.Test.YtkfmammkbmhfaaaXPureA
import Derived.Test.YtkfmammkbmhfaaaXSpec
import Derived.Lib.BitFns
namespace Go.Proofs.Ytkfmammkbmhfaaa
set_option linter.unusedSimpArgs false
set_option linter.unusedVariables false
open Go
theorem len_bounds (n : Nat) (hn : n < 18446744073709551616) (h0 : n ≠ 0) : 1 ≤ Lib.bitLen n ∧ 2 ^ (Lib.bitLen n - 1) ≤ n ∧ n < 2 ^ Lib.bitLen n := by
  suffices H : ∀ f m, m < 2 ^ f → m ≠ 0 → ∃ k, Lib.bitLenAux f m = k + 1 ∧ 2 ^ k ≤ m ∧ m < 2 ^ (k + 1) by
    obtain ⟨k, e, h1, h2⟩ := H 64 n (by omega) h0
    unfold Lib.bitLen
    rw [e]
    exact ⟨by omega, h1, h2⟩
  intro f
  induction f with
  | zero => intro m hm h; simp at hm; omega
  | succ f ih =>
    intro m hm h
    simp only [Lib.bitLenAux, if_neg h]
    by_cases h2 : m / 2 = 0
    · have : m = 1 := by omega
      subst this
      refine ⟨0, ?_, by simp, by simp⟩
      cases f <;> simp [Lib.bitLenAux]
    · obtain ⟨k, e, a, b⟩ := ih (m / 2) (by rw [Nat.pow_succ] at hm; omega) h2
      refine ⟨k + 1, by rw [e]; omega, ?_, ?_⟩
      · rw [Nat.pow_succ]; omega
      · rw [Nat.pow_succ] at b ⊢; omega
def lz (x : Int) : Nat := 64 - Lib.bitLen x.toNat
theorem lz_int {x : Int} (h : U x) : 64 - (Lib.bitLen x.toNat : Int) = (lz x : Int) ∧ lz x ≤ 64 := by
  have := Lib.bitLen_le x.toNat 64 (by omega) (by have := h.2; omega)
  unfold lz
  omega
theorem lz_spec {x : Int} (h : U x) : (∀ i, i < lz x → wbit x (63 - i) = false) ∧ (x ≠ 0 → lz x < 64 ∧ wbit x (63 - lz x) = true) := by
  obtain ⟨n, rfl, hn⟩ := U_nat h
  by_cases h0 : n = 0
  · subst h0
    refine ⟨fun i _ => ?_, fun hne => absurd rfl hne⟩
    rw [wbit_nat]; simp
  · obtain ⟨h1, h2, h3⟩ := len_bounds n hn h0
    have hle := Lib.bitLen_le n 64 (by omega) (by omega)
    have e : lz (n : Int) = 64 - Lib.bitLen n := by unfold lz; rw [Int.toNat_natCast]
    generalize Lib.bitLen n = L at *
    refine ⟨fun i hi => ?_, fun _ => ⟨by omega, ?_⟩⟩
    · rw [wbit_nat]
      refine Nat.testBit_lt_two_pow (Nat.lt_of_lt_of_le h3 ?_)
      exact Nat.pow_le_pow_right (by omega) (by omega)
    · obtain ⟨k, rfl⟩ : ∃ k, L = k + 1 := ⟨L - 1, by omega⟩
      simp only [Nat.add_sub_cancel] at h2
      rw [wbit_nat, e, show 63 - (64 - (k + 1)) = k by omega, Nat.testBit_eq_decide_div_mod_eq]
      have hlt : n / 2 ^ k < 2 := by
        rw [Nat.div_lt_iff_lt_mul (Nat.pow_pos (by omega))]
        rw [Nat.pow_succ] at h3
        omega
      have hge : 1 ≤ n / 2 ^ k := (Nat.le_div_iff_mul_le (Nat.pow_pos (by omega))).2 (by omega)
      have : n / 2 ^ k = 1 := by omega
      rw [this]; rfl
def aCommon (a b : A2) : Nat := if (aXor a b).x ≠ 0 then lz (aXor a b).x else 64 + lz (aXor a b).y
theorem common_spec {a b : A2} (ha : a.ok) (hb : b.ok) : aCommon a b ≤ 128 ∧ allTo (eqP a b) (aCommon a b) = true ∧ (aCommon a b < 128 → abit a (aCommon a b) ≠ abit b (aCommon a b)) := by
  have hx : U (aXor a b).x := U_xor ha.1 hb.1
  have hy : U (aXor a b).y := U_xor ha.2 hb.2
  have bx : ∀ i, wbit (aXor a b).x i = (wbit a.x i != wbit b.x i) := wbit_xor ha.1 hb.1
  have bY : ∀ i, wbit (aXor a b).y i = (wbit a.y i != wbit b.y i) := wbit_xor ha.2 hb.2
  have lx := (lz_int hx).2
  have ly := (lz_int hy).2
  have sx := lz_spec hx
  have sy := lz_spec hy
  rw [allTo_iff]
  unfold aCommon eqP
  by_cases e : (aXor a b).x = 0
  · rw [if_neg (by simp [e])]
    have exy := word_eq ha.1 hb.1 fun i hi => by
      have := bx (63 - i)
      rw [e] at this
      rw [show wbit 0 (63 - i) = false from by rw [show (0 : Int) = ((0 : Nat) : Int) from rfl, wbit_nat]; simp] at this
      simpa using this.symm
    refine ⟨by omega, fun i hi => ?_, fun hlt => ?_⟩
    · by_cases h : i < 64
      · unfold abit; rw [if_pos h, if_pos h, exy]; simp
      · have := sy.1 (i - 64) (by omega)
        rw [bY, show 63 - (i - 64) = 127 - i by omega] at this
        unfold abit; rw [if_neg h, if_neg h]
        simpa using this
    · have hy0 : (aXor a b).y ≠ 0 := fun h0 => by
        have : lz (aXor a b).y = 64 := by rw [h0]; rfl
        omega
      obtain ⟨h1, h2⟩ := sy.2 hy0
      rw [bY, show 63 - lz (aXor a b).y = 127 - (64 + lz (aXor a b).y) by omega] at h2
      unfold abit; rw [if_neg (by omega), if_neg (by omega)]
      simpa using h2
  · rw [if_pos e]
    obtain ⟨h1, h2⟩ := sx.2 e
    refine ⟨by omega, fun i hi => ?_, fun _ => ?_⟩
    · have := sx.1 i hi
      rw [bx] at this
      unfold abit; rw [if_pos (by omega), if_pos (by omega)]
      simpa using this
    · rw [bx] at h2
      unfold abit; rw [if_pos h1, if_pos h1]
      simpa using h2
theorem clamp_range (n : Int) : 0 ≤ clamp n ∧ clamp n ≤ 128 := by
  unfold clamp
  split
  · omega
  · split <;> omega
def rpMatch (p : Pfx) (a : A2) : Bool := allTo (eqP p.a a) (clamp p.len).toNat
def pCmp (p q : Pfx) : Int := if aCompare p.a q.a = 0 then (if p.len < q.len then -1 else if q.len < p.len then 1 else 0) else aCompare p.a q.a
end Go.Proofs.Ytkfmammkbmhfaaa

/- Prefixes, their order, tables of routes, and those that say something new, in plain Lean. -/
namespace Go.Proofs.Ytkfmammkbmhfaaa
set_option linter.unusedSimpArgs false
set_option linter.unusedVariables false
open Go
structure Canon (p : Pfx) : Prop where
  lo : 0 ≤ p.len
  hi : p.len ≤ 128
  ok : p.a.ok
  zero : ∀ i : Nat, i < 128 → p.len ≤ i → abit p.a i = false
theorem clamp_id {n : Int} (h0 : 0 ≤ n) (h1 : n ≤ 128) : clamp n = n := by
  unfold clamp
  rw [if_neg (by omega), if_neg (by omega)]
theorem rpm_iff {p : Pfx} (hp : Canon p) {a : A2} : rpMatch p a = true ↔ ∀ i : Nat, (i : Int) < p.len → abit p.a i = abit a i := by
  have h0 := hp.lo
  have h1 := hp.hi
  unfold rpMatch
  rw [clamp_id hp.lo hp.hi, allTo_iff]
  constructor
  · intro h i hi
    have := h i (by omega)
    unfold eqP at this
    simpa using this
  · intro h i hi
    unfold eqP
    rw [h i (by omega)]
    simp
theorem cmp_less {a b : A2} (ha : a.ok) (hb : b.ok) {k : Nat} (hk : k < 128) (he : ∀ i, i < k → abit a i = abit b i) (h0 : abit a k = false) (h1 : abit b k = true) : aCompare a b = -1 := by
  have h := (cmp_bits ha hb (k := k) (by omega) ((allTo_iff _ _).2 fun i hi => by unfold eqP; rw [he i hi]; simp)).2 hk (by rw [h0, h1]; simp)
  rw [h, h1]; rfl
theorem cmp_more {a b : A2} (ha : a.ok) (hb : b.ok) {k : Nat} (hk : k < 128) (he : ∀ i, i < k → abit a i = abit b i) (h0 : abit a k = true) (h1 : abit b k = false) : aCompare a b = 1 := by
  have h := (cmp_bits ha hb (k := k) (by omega) ((allTo_iff _ _).2 fun i hi => by unfold eqP; rw [he i hi]; simp)).2 hk (by rw [h0, h1]; simp)
  rw [h, h1]; rfl
theorem cmp_is (a b : A2) : (aCompare a b < 0 ↔ a.x < b.x ∨ a.x = b.x ∧ a.y < b.y) ∧ (aCompare a b = 0 ↔ a.x = b.x ∧ a.y = b.y) ∧ (0 < aCompare a b ↔ b.x < a.x ∨ a.x = b.x ∧ b.y < a.y) := by
  unfold aCompare
  repeat' split
  all_goals refine ⟨?_, ?_, ?_⟩ <;> constructor <;> intro h <;> omega
theorem pcmp_is (p q : Pfx) : (pCmp p q < 0 ↔ p.a.x < q.a.x ∨ p.a.x = q.a.x ∧ (p.a.y < q.a.y ∨ p.a.y = q.a.y ∧ p.len < q.len)) ∧ (0 < pCmp p q ↔ q.a.x < p.a.x ∨ p.a.x = q.a.x ∧ (q.a.y < p.a.y ∨ p.a.y = q.a.y ∧ q.len < p.len)) := by
  obtain ⟨h1, h2, h3⟩ := cmp_is p.a q.a
  unfold pCmp
  generalize aCompare p.a q.a = c at *
  by_cases e : c = 0
  · rw [if_pos e]
    obtain ⟨e1, e2⟩ := h2.1 e
    split
    · omega
    · split <;> omega
  · rw [if_neg e]
    have hn : ¬ (p.a.x = q.a.x ∧ p.a.y = q.a.y) := fun h => e (h2.2 h)
    omega
def pLt (p q : Pfx) : Prop := pCmp p q < 0
theorem pLt.trans {p q r : Pfx} (h1 : pLt p q) (h2 : pLt q r) : pLt p r := by
  unfold pLt at *
  rw [(pcmp_is _ _).1] at *
  omega
theorem pLt.ne {p q : Pfx} (h : pLt p q) : p ≠ q := fun e => by
  subst e
  unfold pLt at h
  rw [(pcmp_is _ _).1] at h
  omega
theorem pLt.asymm {p q : Pfx} (h : pLt p q) (h2 : pLt q p) : False := by
  unfold pLt at *
  rw [(pcmp_is _ _).1] at *
  omega
theorem pLt_or {p q : Pfx} (h : p ≠ q) : pLt p q ∨ pLt q p := by
  unfold pLt
  rw [(pcmp_is p q).1, (pcmp_is q p).1]
  obtain ⟨⟨a, b⟩, l⟩ := p
  obtain ⟨⟨c, d⟩, m⟩ := q
  dsimp only
  have : ¬ (a = c ∧ b = d ∧ l = m) := fun ⟨h1, h2, h3⟩ => h (by rw [h1, h2, h3])
  omega
theorem pcmp_pos {p q : Pfx} : 0 < pCmp p q ↔ pLt q p := by
  unfold pLt
  rw [(pcmp_is p q).2, (pcmp_is q p).1]
  omega
def PCov (p q : Pfx) : Prop := p.len ≤ q.len ∧ rpMatch p q.a = true
theorem PCov.refl {p : Pfx} (h : Canon p) : PCov p p := ⟨Int.le_refl _, (rpm_iff h).2 fun _ _ => rfl⟩
theorem PCov.trans {p q r : Pfx} (hp : Canon p) (hq : Canon q) (h1 : PCov p q) (h2 : PCov q r) : PCov p r := by
  refine ⟨Int.le_trans h1.1 h2.1, (rpm_iff hp).2 fun i hi => ?_⟩
  rw [(rpm_iff hp).1 h1.2 i hi, (rpm_iff hq).1 h2.2 i (by have := h1.1; omega)]
theorem same_match {p q : Pfx} {a : A2} (hp : Canon p) (hq : Canon q) (hl : p.len = q.len) (h1 : rpMatch p a = true) (h2 : rpMatch q a = true) : p = q := by
  have : p.a = q.a := ok_ext hp.ok hq.ok fun i hi => by
    by_cases h : (i : Int) < p.len
    · rw [(rpm_iff hp).1 h1 i h, (rpm_iff hq).1 h2 i (by omega)]
    · rw [hp.zero i hi (by omega), hq.zero i hi (by omega)]
  obtain ⟨a1, l1⟩ := p
  obtain ⟨a2, l2⟩ := q
  dsimp only at this hl
  rw [this, hl]
theorem same_cov {p q : Pfx} (hp : Canon p) (hq : Canon q) (hl : p.len = q.len) (h1 : PCov p q) : p = q := same_match hp hq hl h1.2 (PCov.refl hq).2
theorem cov_lt {p q : Pfx} (hp : Canon p) (hq : Canon q) (h : PCov p q) (hne : p ≠ q) : pLt p q := by
  obtain ⟨h1, h2, h3⟩ := common_spec hp.ok hq.ok
  rw [allTo_iff] at h2
  have he : ∀ i, i < aCommon p.a q.a → abit p.a i = abit q.a i := fun i hi => by have := h2 i hi; unfold eqP at this; simpa using this
  have hm := (rpm_iff hp).1 h.2
  unfold pLt pCmp
  by_cases hk : aCommon p.a q.a < 128
  · have hd := h3 hk
    have hge : p.len ≤ (aCommon p.a q.a : Int) := by
      refine Classical.byContradiction fun hc => hd (hm _ (by omega))
    have h0 := hp.zero _ hk hge
    have h1' : abit q.a (aCommon p.a q.a) = true := by rw [h0] at hd; simpa using hd
    rw [cmp_less hp.ok hq.ok hk he h0 h1']
    simp
  · have ea : p.a = q.a := ok_ext hp.ok hq.ok fun i hi => he i (by omega)
    have e0 : aCompare p.a q.a = 0 := (cmp_is _ _).2.1.2 (by rw [ea]; exact ⟨rfl, rfl⟩)
    have hl : p.len ≠ q.len := fun e => hne (by
      obtain ⟨a1, l1⟩ := p
      obtain ⟨a2, l2⟩ := q
      dsimp only at ea e
      rw [ea, e])
    have := h.1
    rw [if_pos e0, if_pos (by omega)]
    decide
theorem cov_between {p q r : Pfx} (hp : Canon p) (hq : Canon q) (hr : Canon r) (h1 : pLt p q) (h2 : pLt q r) (h : PCov p r) : PCov p q := by
  have hm := (rpm_iff hp).1 h.2
  have key : ∀ i : Nat, (i : Int) < p.len → abit p.a i = abit q.a i := by
    refine Classical.byContradiction fun hc => ?_
    obtain ⟨c1, c2, c3⟩ := common_spec hp.ok hq.ok
    rw [allTo_iff] at c2
    have he : ∀ i, i < aCommon p.a q.a → abit p.a i = abit q.a i := fun i hi => by have := c2 i hi; unfold eqP at this; simpa using this
    have hk : (aCommon p.a q.a : Int) < p.len := by
      refine Classical.byContradiction fun hge => hc fun i hi => he i (by omega)
    have hhi := hp.hi
    have hk2 : aCommon p.a q.a < 128 := by omega
    have hd := c3 hk2
    cases hb : abit p.a (aCommon p.a q.a) with
    | true =>
      have hb2 : abit q.a (aCommon p.a q.a) = false := by rw [hb] at hd; simpa using hd.symm
      have := cmp_more hp.ok hq.ok hk2 he hb hb2
      unfold pLt pCmp at h1
      rw [this] at h1
      simp at h1
    | false =>
      have hb2 : abit q.a (aCommon p.a q.a) = true := by rw [hb] at hd; simpa using hd
      have hr2 : abit r.a (aCommon p.a q.a) = false := by rw [← hm _ hk]; exact hb
      have := cmp_more hq.ok hr.ok hk2 (fun i hi => by rw [← he i hi, hm i (by omega)]) hb2 hr2
      unfold pLt pCmp at h2
      rw [this] at h2
      simp at h2
  refine ⟨?_, (rpm_iff hp).2 key⟩
  refine Classical.byContradiction fun hc => ?_
  have ea : p.a = q.a := ok_ext hp.ok hq.ok fun i hi => by
    by_cases h : (i : Int) < p.len
    · exact key i h
    · rw [hp.zero i hi (by omega), hq.zero i hi (by omega)]
  unfold pLt pCmp at h1
  rw [if_pos ((cmp_is _ _).2.1.2 (by rw [ea]; exact ⟨rfl, rfl⟩)), if_neg (by omega), if_pos (by omega)] at h1
  omega
/-! ### Tables -/
structure TableR (rs : List Rte) : Prop where
  canon : ∀ r ∈ rs, Canon r.p
  act : ∀ r ∈ rs, 1 ≤ r.act ∧ r.act ≤ 255
  sorted : rs.Pairwise fun x y => pLt x.p y.p
theorem sorted_eq : ∀ {xs ys : List Rte}, xs.Pairwise (fun x y => pLt x.p y.p) → ys.Pairwise (fun x y => pLt x.p y.p) → (∀ r, r ∈ xs ↔ r ∈ ys) → xs = ys
  | [], [], _, _, _ => rfl
  | [], y :: ys, _, _, h => by cases (h y).2 List.mem_cons_self
  | x :: xs, [], _, _, h => by cases (h x).1 List.mem_cons_self
  | x :: xs, y :: ys, hx, hy, h => by
    obtain ⟨hx1, hx2⟩ := List.pairwise_cons.1 hx
    obtain ⟨hy1, hy2⟩ := List.pairwise_cons.1 hy
    have e : x = y := by
      rcases List.mem_cons.1 ((h x).1 List.mem_cons_self) with e | hm
      · exact e
      · rcases List.mem_cons.1 ((h y).2 List.mem_cons_self) with e | hm2
        · exact e.symm
        · exact ((hy1 x hm).asymm (hx1 y hm2)).elim
    subst e
    rw [sorted_eq hx2 hy2 fun r => ⟨fun hr => ?_, fun hr => ?_⟩]
    · rcases List.mem_cons.1 ((h r).1 (List.mem_cons_of_mem _ hr)) with e | hm
      · exact ((hx1 r hr).ne (by rw [e])).elim
      · exact hm
    · rcases List.mem_cons.1 ((h r).2 (List.mem_cons_of_mem _ hr)) with e | hm
      · exact ((hy1 r hr).ne (by rw [e])).elim
      · exact hm
theorem sorted_same {xs : List Rte} (h : xs.Pairwise fun x y => pLt x.p y.p) {r s : Rte} (hr : r ∈ xs) (hs : s ∈ xs) (e : r.p = s.p) : r = s := by
  refine Classical.byContradiction fun hne => ?_
  obtain ⟨i, hi, rfl⟩ := List.mem_iff_getElem.1 hr
  obtain ⟨j, hj, rfl⟩ := List.mem_iff_getElem.1 hs
  rcases Nat.lt_trichotomy i j with h1 | h1 | h1
  · exact ((List.pairwise_iff_getElem.1 h) i j hi hj h1).ne e
  · subst h1; exact hne rfl
  · exact ((List.pairwise_iff_getElem.1 h) j i hj hi h1).ne e.symm
structure IsCover (S : List Rte) (p : Pfx) (c : Rte) : Prop where
  mem : c ∈ S
  short : c.p.len < p.len
  hit : rpMatch c.p p.a = true
  near : ∀ d ∈ S, d.p.len < p.len → rpMatch d.p p.a = true → d.p.len ≤ c.p.len
theorem IsCover.uniq {rs S : List Rte} (ht : TableR rs) (hS : ∀ r ∈ S, r ∈ rs) {p : Pfx} {c d : Rte} (h1 : IsCover S p c) (h2 : IsCover S p d) : c = d := by
  have e1 := h1.near d h2.mem h2.short h2.hit
  have e2 := h2.near c h1.mem h1.short h1.hit
  exact sorted_same ht.sorted (hS c h1.mem) (hS d h2.mem) (same_match (ht.canon c (hS c h1.mem)) (ht.canon d (hS d h2.mem)) (by omega) h1.hit h2.hit)
structure Kept (rs S : List Rte) : Prop where
  sub : ∀ r ∈ S, r ∈ rs
  sorted : S.Pairwise fun x y => pLt x.p y.p
  iff : ∀ r ∈ rs, (r ∈ S ↔ ∀ c, IsCover S r.p c → c.act ≠ r.act)
theorem IsCover.congr {S T : List Rte} {p : Pfx} {c : Rte} (h : ∀ d : Rte, d.p.len < p.len → (d ∈ S ↔ d ∈ T)) : IsCover S p c ↔ IsCover T p c :=
  ⟨fun ⟨a, b, e, f⟩ => ⟨(h c b).1 a, b, e, fun d hd hl => f d ((h d hl).2 hd) hl⟩, fun ⟨a, b, e, f⟩ => ⟨(h c b).2 a, b, e, fun d hd hl => f d ((h d hl).1 hd) hl⟩⟩
end Go.Proofs.Ytkfmammkbmhfaaa

/- Trees of bits, in plain Lean: rows of nodes, and what they hold. -/
namespace Go.Proofs.Ytkfmammkbmhfaaa
set_option linter.unusedSimpArgs false
set_option linter.unusedVariables false
open Go
structure Nd where
  c0 : Nat
  c1 : Nat
  act : Int
deriving DecidableEq, Inhabited
def nd0 : Nd := ⟨0, 0, 0⟩
def Nd.ch (x : Nd) (b : Bool) : Nat := bif b then x.c1 else x.c0
def Nd.set (x : Nd) (b : Bool) (n : Nat) : Nd := bif b then ⟨x.c0, n, x.act⟩ else ⟨n, x.c1, x.act⟩
def Nd.say (x : Nd) (v : Int) : Nd := ⟨x.c0, x.c1, v⟩
theorem Nd.ext' {x y : Nd} (h0 : x.ch false = y.ch false) (h1 : x.ch true = y.ch true) (h2 : x.act = y.act) : x = y := by
  cases x; cases y; simp [Nd.ch] at h0 h1; simp at h2; simp [h0, h1, h2]
def fstB (a : A2) (k : Nat) : List Bool := (List.range k).map (abit a)
theorem fstB_len (a : A2) (k : Nat) : (fstB a k).length = k := by simp [fstB]
theorem fstB_zero (a : A2) : fstB a 0 = [] := rfl
theorem fstB_succ (a : A2) (k : Nat) : fstB a (k + 1) = fstB a k ++ [abit a k] := by simp [fstB, List.range_succ]
theorem fstB_add (a : A2) (k m : Nat) (h : k ≤ m) : ∃ r, fstB a m = fstB a k ++ r := by
  obtain ⟨d, rfl⟩ : ∃ d, m = k + d := ⟨m - k, by omega⟩
  clear h
  induction d with
  | zero => exact ⟨[], by simp⟩
  | succ d ih => obtain ⟨r, hr⟩ := ih; exact ⟨r ++ [abit a (k + d)], by rw [← Nat.add_assoc, fstB_succ, hr, List.append_assoc]⟩
theorem fstB_pre {a : A2} {m : Nat} {q r : List Bool} (h : q ++ r = fstB a m) : ∃ j, j ≤ m ∧ q = fstB a j := by
  have hl : q.length ≤ m := by have := congrArg List.length h; rw [List.length_append, fstB_len] at this; omega
  obtain ⟨s, hs⟩ := fstB_add a q.length m hl
  refine ⟨q.length, hl, ?_⟩
  have h2 : q ++ r = fstB a q.length ++ s := h.trans hs
  exact (List.append_inj h2 (by rw [fstB_len])).1
theorem snoc_inj {q q' : List Bool} {b b' : Bool} (h : q ++ [b] = q' ++ [b']) : q = q' ∧ b = b' := by
  have := List.append_inj' h rfl
  exact ⟨this.1, by simpa using this.2⟩
theorem snoc_ne (q : List Bool) (b : Bool) : q ++ [b] ≠ [] := by simp
theorem snoc_ne_self (q : List Bool) (b : Bool) : q ++ [b] ≠ q := fun h => by have := congrArg List.length h; simp at this
/-! ### Rows of nodes -/
def nch (l : List Nd) (i : Nat) (b : Bool) : Nat := (nth l i).ch b
def setCh (l : List Nd) (i : Nat) (b : Bool) (n : Nat) : List Nd := l.set i ((nth l i).set b n)
theorem setCh_len (l : List Nd) (i : Nat) (b : Bool) (n : Nat) : (setCh l i b n).length = l.length := by simp [setCh]
def wlk (l : List Nd) (a : A2) : Nat → Nat
  | 0 => 1
  | k + 1 => nch l (wlk l a k) (abit a k)
def freshT (l : List Nd) (f : List Nat) : List Nd × List Nat × Nat :=
  if f.length = 0 then (l ++ [nd0], f, l.length) else (l.set (nth f (f.length - 1)) nd0, f.take (f.length - 1), nth f (f.length - 1))
def stepT (l : List Nd) (f : List Nat) (i : Nat) (b : Bool) : List Nd × List Nat × Nat :=
  if nch l i b = 0 then (setCh (freshT l f).1 i b (freshT l f).2.2, (freshT l f).2.1, (freshT l f).2.2) else (l, f, nch l i b)
def putTo (l : List Nd) (f : List Nat) (a : A2) : Nat → List Nd × List Nat × Nat
  | 0 => (l, f, 1)
  | k + 1 => stepT (putTo l f a k).1 (putTo l f a k).2.1 (putTo l f a k).2.2 (abit a k)
def sayT (l : List Nd) (i : Nat) (v : Int) : List Nd := l.set i ((nth l i).say v)
def pruneTo (a : A2) (way : Nat → Nat) : Nat → List Nd → List Nat → List Nd × List Nat
  | 0, l, f => (l, f)
  | k + 1, l, f => if nth l (way (k + 1)) = nd0 then pruneTo a way k (setCh l (way k) (abit a k) 0) (f ++ [way (k + 1)]) else (l, f)
/-! ### What they hold -/
structure Holds (l : List Nd) (f : List Nat) (pos : List Bool → Nat) (dom : List (List Bool)) (act : List Bool → Int) : Prop where
  root : pos [] = 1
  nd : dom.Nodup
  dom_iff : ∀ q, q ∈ dom ↔ pos q ≠ 0
  inj : ∀ q q', pos q ≠ 0 → pos q = pos q' → q = q'
  lt : ∀ q, pos q ≠ 0 → pos q < l.length
  node : ∀ q, pos q ≠ 0 → nth l (pos q) = ⟨pos (q ++ [false]), pos (q ++ [true]), act q⟩
  zero : nth l 0 = nd0
  down : ∀ q b, pos (q ++ [b]) ≠ 0 → pos q ≠ 0
  actz : ∀ q, act q ≠ 0 → pos q ≠ 0
  fnd : f.Nodup
  fr : ∀ i ∈ f, i ≠ 0 ∧ i < l.length ∧ ∀ q, pos q ≠ i
  cnt : dom.length + f.length + 1 = l.length
theorem nth_set {α : Type} [Inhabited α] (l : List α) (i j : Nat) (x : α) (hi : i < l.length) : nth (l.set i x) j = if i = j then x else nth l j := by
  unfold nth
  rw [List.getD_eq_getElem?_getD, List.getD_eq_getElem?_getD, List.getElem?_set]
  split
  · rename_i h; subst h; simp [hi]
  · rfl
theorem nth_snoc {α : Type} [Inhabited α] (l : List α) (x : α) (j : Nat) : nth (l ++ [x]) j = if j = l.length then x else nth l j := by
  unfold nth
  rw [List.getD_eq_getElem?_getD, List.getD_eq_getElem?_getD]
  by_cases h : j = l.length
  · subst h; simp
  · rw [if_neg h]
    by_cases h2 : j < l.length
    · rw [List.getElem?_append_left h2]
    · rw [List.getElem?_eq_none (by simp; omega), List.getElem?_eq_none (by omega)]
section
variable {l : List Nd} {f : List Nat} {pos : List Bool → Nat} {dom : List (List Bool)} {act : List Bool → Int}
theorem Holds.len (h : Holds l f pos dom act) : 1 < l.length := by
  have := h.lt [] (by rw [h.root]; omega)
  rw [h.root] at this; exact this
theorem Holds.nch (h : Holds l f pos dom act) (q : List Bool) (b : Bool) : nch l (pos q) b = pos (q ++ [b]) := by
  unfold Proofs.Ytkfmammkbmhfaaa.nch
  by_cases hp : pos q = 0
  · rw [hp, h.zero]
    have : pos (q ++ [b]) = 0 := Decidable.byContradiction fun hc => h.down q b hc hp
    rw [this]; cases b <;> rfl
  · rw [h.node q hp]; cases b <;> rfl
theorem Holds.wlk (h : Holds l f pos dom act) (a : A2) : ∀ k, wlk l a k = pos (fstB a k)
  | 0 => h.root.symm
  | k + 1 => by
    show Proofs.Ytkfmammkbmhfaaa.nch l (Proofs.Ytkfmammkbmhfaaa.wlk l a k) (abit a k) = _
    rw [Holds.wlk h a k, h.nch, fstB_succ]
theorem Holds.start : Holds [nd0, nd0] [] (fun q => if q = [] then 1 else 0) [[]] (fun _ => 0) where
  root := rfl
  nd := by simp
  dom_iff := fun q => by by_cases h : q = [] <;> simp [h]
  inj := fun q q' h1 h2 => by
    by_cases h : q = []
    · by_cases h' : q' = []
      · rw [h, h']
      · simp [h, h'] at h2
    · simp [h] at h1
  lt := fun q h => by by_cases h' : q = [] <;> simp [h'] at h ⊢
  node := fun q h => by
    by_cases h' : q = []
    · subst h'; rfl
    · simp [h'] at h
  zero := rfl
  down := fun q b h => by simp at h
  actz := fun q h => absurd rfl h
  fnd := by simp
  fr := fun i h => by cases h
  cnt := rfl
theorem Holds.fresh (h : Holds l f pos dom act) : (freshT l f).2.2 ≠ 0 ∧ (∀ q, pos q ≠ (freshT l f).2.2) ∧ (freshT l f).2.2 < (freshT l f).1.length ∧ nth (freshT l f).1 (freshT l f).2.2 = nd0 ∧ (∀ i, i ≠ (freshT l f).2.2 → nth (freshT l f).1 i = nth l i) ∧ l.length ≤ (freshT l f).1.length ∧
    (freshT l f).2.1.Nodup ∧ (∀ i ∈ (freshT l f).2.1, i ∈ f ∧ i ≠ (freshT l f).2.2) ∧ (freshT l f).2.1.length + l.length + 1 = (freshT l f).1.length + f.length := by
  have hl := h.len
  unfold freshT
  by_cases hf : f.length = 0
  · have hf0 : f = [] := List.eq_nil_of_length_eq_zero hf
    subst hf0
    simp only [List.length_nil, if_true]
    refine ⟨by omega, fun q hq => ?_, by simp, by rw [nth_snoc, if_pos rfl], fun i hi => by rw [nth_snoc, if_neg hi], by simp, List.nodup_nil, (fun i hi => by cases hi), by simp⟩
    have := h.lt q (by omega)
    omega
  · simp only [if_neg hf]
    have hlt : f.length - 1 < f.length := by omega
    have hm : nth f (f.length - 1) ∈ f := by rw [nth_at f hlt]; exact List.getElem_mem hlt
    obtain ⟨h1, h2, h3⟩ := h.fr _ hm
    refine ⟨h1, h3, by simpa using h2, by rw [nth_set _ _ _ _ h2, if_pos rfl], fun i hi => by rw [nth_set _ _ _ _ h2, if_neg (Ne.symm hi)], by simp, h.fnd.sublist (List.take_sublist _ _), fun i hi => ⟨List.mem_of_mem_take hi, fun e => ?_⟩, by simp; omega⟩
    obtain ⟨j, hj, e2⟩ := List.mem_iff_getElem.1 hi
    rw [List.getElem_take] at e2
    rw [List.length_take] at hj
    rw [nth_at f hlt] at e
    have := (List.getElem_inj h.fnd).1 (e2.trans e)
    omega
theorem Holds.step (h : Holds l f pos dom act) {q : List Bool} {b : Bool} (hq : pos q ≠ 0) (hb : pos (q ++ [b]) = 0) :
    Holds (setCh (freshT l f).1 (pos q) b (freshT l f).2.2) (freshT l f).2.1 (fun r => if r = q ++ [b] then (freshT l f).2.2 else pos r) (dom ++ [q ++ [b]]) act := by
  have H := h.fresh
  generalize (freshT l f).1 = l1 at H ⊢
  generalize (freshT l f).2.1 = f1 at H ⊢
  generalize (freshT l f).2.2 = n at H ⊢
  obtain ⟨g1, g2, g3, g4, g5, g6, g7, g8, g9⟩ := H
  have hne : pos q ≠ n := g2 q
  have hql : pos q < l1.length := Nat.lt_of_lt_of_le (h.lt q hq) g6
  have hnq : nth l1 (pos q) = ⟨pos (q ++ [false]), pos (q ++ [true]), act q⟩ := by rw [g5 _ hne, h.node q hq]
  have hdn : ∀ c, pos (q ++ [b] ++ [c]) = 0 := fun c => Decidable.byContradiction fun hc => h.down _ c hc hb
  have hact : act (q ++ [b]) = 0 := Decidable.byContradiction fun hc => h.actz _ hc hb
  have hndm : q ++ [b] ∉ dom := fun hm => (h.dom_iff _).1 hm hb
  have hpne : ∀ r, pos r ≠ 0 → r ≠ q ++ [b] := fun r hr e => hr (by rw [e]; exact hb)
  exact {
    root := by rw [if_neg (snoc_ne q b).symm]; exact h.root
    nd := List.nodup_append.2 ⟨h.nd, by simp, fun a ha c hc e => hndm (by simp at hc; rw [← hc, ← e]; exact ha)⟩
    dom_iff := fun r => by
      by_cases e : r = q ++ [b]
      · subst e; simp [g1]
      · rw [if_neg e, ← h.dom_iff r]; simp [e]
    inj := fun r r' hr he => by
      by_cases e : r = q ++ [b]
      · by_cases e' : r' = q ++ [b]
        · rw [e, e']
        · rw [if_pos e, if_neg e'] at he; exact absurd he.symm (g2 r')
      · rw [if_neg e] at hr he
        by_cases e' : r' = q ++ [b]
        · rw [if_pos e'] at he; exact absurd he (g2 r)
        · rw [if_neg e'] at he; exact h.inj r r' hr he
    lt := fun r hr => by
      rw [setCh_len]
      by_cases e : r = q ++ [b]
      · rw [if_pos e]; exact g3
      · rw [if_neg e] at hr ⊢; exact Nat.lt_of_lt_of_le (h.lt r hr) g6
    node := fun r hr => by
      unfold setCh
      by_cases e : r = q ++ [b]
      · subst e
        rw [if_pos rfl, nth_set _ _ _ _ hql, if_neg hne, g4, if_neg (snoc_ne_self _ _), if_neg (snoc_ne_self _ _), hdn, hdn, hact]; rfl
      · rw [if_neg e] at hr ⊢
        by_cases er : r = q
        · subst er
          rw [nth_set _ _ _ _ hql, if_pos rfl, hnq]
          cases b
          · rw [if_pos rfl, if_neg (fun hh => by have := (snoc_inj hh).2; cases this)]; rfl
          · rw [if_neg (fun hh => by have := (snoc_inj hh).2; cases this), if_pos rfl]; rfl
        · have h1 : pos q ≠ pos r := fun hh => er (h.inj q r hq hh).symm
          rw [nth_set _ _ _ _ hql, if_neg h1, g5 _ (g2 r), h.node r hr, if_neg (fun hh => er (snoc_inj hh).1), if_neg (fun hh => er (snoc_inj hh).1)]
    zero := by
      unfold setCh
      rw [nth_set _ _ _ _ hql, if_neg hq, g5 0 (Ne.symm g1), h.zero]
    down := fun r c hr => by
      by_cases e : r ++ [c] = q ++ [b]
      · obtain ⟨rfl, rfl⟩ := snoc_inj e
        rw [if_neg (snoc_ne_self r c).symm]; exact hq
      · rw [if_neg e] at hr
        have := h.down r c hr
        rw [if_neg (hpne r this)]; exact this
    actz := fun r hr => by
      have := h.actz r hr
      rw [if_neg (hpne r this)]; exact this
    fnd := g7
    fr := fun i hi => by
      obtain ⟨m1, m2⟩ := g8 i hi
      obtain ⟨k1, k2, k3⟩ := h.fr i m1
      refine ⟨k1, by rw [setCh_len]; omega, fun r => ?_⟩
      by_cases e : r = q ++ [b]
      · rw [if_pos e]; exact Ne.symm m2
      · rw [if_neg e]; exact k3 r
    cnt := by rw [setCh_len, List.length_append, List.length_singleton]; have := h.cnt; omega }
theorem Holds.say (h : Holds l f pos dom act) {q : List Bool} (hq : pos q ≠ 0) (v : Int) : Holds (sayT l (pos q) v) f pos dom (fun r => if r = q then v else act r) := by
  have hql := h.lt q hq
  have hlen : (sayT l (pos q) v).length = l.length := by simp [sayT]
  exact { h with
    lt := fun r hr => by rw [hlen]; exact h.lt r hr
    node := fun r hr => by
      unfold sayT
      by_cases e : r = q
      · subst e; rw [nth_set _ _ _ _ hql, if_pos rfl, if_pos rfl, h.node r hr]; rfl
      · rw [if_neg e, nth_set _ _ _ _ hql, if_neg (fun hh => e (h.inj q r hq hh).symm), h.node r hr]
    zero := by unfold sayT; rw [nth_set _ _ _ _ hql, if_neg hq, h.zero]
    actz := fun r hr => by
      by_cases e : r = q
      · rw [e]; exact hq
      · rw [if_neg e] at hr; exact h.actz r hr
    fr := fun i hi => by rw [hlen]; exact h.fr i hi
    cnt := by rw [hlen]; exact h.cnt }
theorem Holds.prune (h : Holds l f pos dom act) {q : List Bool} {b : Bool} (hb : pos (q ++ [b]) ≠ 0) (hz : nth l (pos (q ++ [b])) = nd0) :
    Holds (setCh l (pos q) b 0) (f ++ [pos (q ++ [b])]) (fun r => if r = q ++ [b] then 0 else pos r) (dom.erase (q ++ [b])) act := by
  have hq := h.down q b hb
  have hql := h.lt q hq
  have hn := h.node _ hb
  rw [hz] at hn
  have hn0 : pos (q ++ [b] ++ [false]) = 0 := (congrArg Nd.c0 hn).symm
  have hn1 : pos (q ++ [b] ++ [true]) = 0 := (congrArg Nd.c1 hn).symm
  have hna : act (q ++ [b]) = 0 := (congrArg Nd.act hn).symm
  have hqb : q ≠ q ++ [b] := (snoc_ne_self q b).symm
  have hdm : q ++ [b] ∈ dom := (h.dom_iff _).2 hb
  exact {
    root := by rw [if_neg (snoc_ne q b).symm]; exact h.root
    nd := h.nd.erase _
    dom_iff := fun r => by
      rw [List.Nodup.mem_erase_iff h.nd, h.dom_iff]
      by_cases e : r = q ++ [b] <;> simp [e]
    inj := fun r r' hr he => by
      by_cases e : r = q ++ [b]
      · rw [if_pos e] at hr; exact absurd rfl hr
      · rw [if_neg e] at hr he
        by_cases e' : r' = q ++ [b]
        · rw [if_pos e'] at he; exact absurd he hr
        · rw [if_neg e'] at he; exact h.inj r r' hr he
    lt := fun r hr => by
      rw [setCh_len]
      by_cases e : r = q ++ [b]
      · rw [if_pos e] at hr; exact absurd rfl hr
      · rw [if_neg e] at hr ⊢; exact h.lt r hr
    node := fun r hr => by
      unfold setCh
      by_cases e : r = q ++ [b]
      · rw [if_pos e] at hr; exact absurd rfl hr
      · rw [if_neg e] at hr ⊢
        by_cases er : r = q
        · subst er
          rw [nth_set _ _ _ _ hql, if_pos rfl, h.node r hr]
          cases b
          · rw [if_pos rfl, if_neg (fun hh => by have := (snoc_inj hh).2; cases this)]; rfl
          · rw [if_neg (fun hh => by have := (snoc_inj hh).2; cases this), if_pos rfl]; rfl
        · have h1 : pos q ≠ pos r := fun hh => er (h.inj q r hq hh).symm
          rw [nth_set _ _ _ _ hql, if_neg h1, h.node r hr, if_neg (fun hh => er (snoc_inj hh).1), if_neg (fun hh => er (snoc_inj hh).1)]
    zero := by unfold setCh; rw [nth_set _ _ _ _ hql, if_neg hq, h.zero]
    down := fun r c hr => by
      by_cases e : r ++ [c] = q ++ [b]
      · rw [if_pos e] at hr; exact absurd rfl hr
      · rw [if_neg e] at hr
        have := h.down r c hr
        by_cases e' : r = q ++ [b]
        · subst e'; cases c <;> simp_all
        · rw [if_neg e']; exact this
    actz := fun r hr => by
      have := h.actz r hr
      by_cases e' : r = q ++ [b]
      · subst e'; exact absurd hna hr
      · rw [if_neg e']; exact this
    fnd := List.nodup_append.2 ⟨h.fnd, by simp, fun a ha c hc e => by simp at hc; exact (h.fr a ha).2.2 (q ++ [b]) (by rw [e, hc])⟩
    fr := fun i hi => by
      rw [setCh_len]
      rcases List.mem_append.1 hi with hi | hi
      · obtain ⟨k1, k2, k3⟩ := h.fr i hi
        refine ⟨k1, k2, fun r => ?_⟩
        by_cases e : r = q ++ [b]
        · rw [if_pos e]; exact Ne.symm k1
        · rw [if_neg e]; exact k3 r
      · simp at hi
        subst hi
        refine ⟨hb, h.lt _ hb, fun r => ?_⟩
        by_cases e : r = q ++ [b]
        · rw [if_pos e]; exact Ne.symm hb
        · rw [if_neg e]; exact fun hh => e (h.inj _ _ hb hh.symm).symm
    cnt := by
      rw [setCh_len, List.length_append, List.length_singleton, List.length_erase_of_mem hdm]
      have := h.cnt
      have : 0 < dom.length := List.length_pos_of_mem hdm
      omega }
end
end Go.Proofs.Ytkfmammkbmhfaaa

/- The routes of a table that say something new: by a row of those that are open, and length by length; in plain Lean. -/
namespace Go.Proofs.Ytkfmammkbmhfaaa
set_option linter.unusedSimpArgs false
set_option linter.unusedVariables false
open Go
theorem TableR.take {rs : List Rte} (h : TableR rs) (n : Nat) : TableR (rs.take n) :=
  ⟨fun r hr => h.canon r (List.mem_of_mem_take hr), fun r hr => h.act r (List.mem_of_mem_take hr), h.sorted.sublist (List.take_sublist _ _)⟩
theorem TableR.before {rs : List Rte} (h : TableR rs) {i : Nat} (hi : i < rs.length) {c : Rte} (hc : c ∈ rs.take i) : pLt c.p rs[i].p := by
  obtain ⟨j, hj, rfl⟩ := List.mem_iff_getElem.1 hc
  have hj' : j < i := by rw [List.length_take] at hj; omega
  rw [List.getElem_take]
  exact (List.pairwise_iff_getElem.1 h.sorted) j i (by omega) hi hj'
theorem TableR.after {rs : List Rte} (h : TableR rs) {i : Nat} (hi : i < rs.length) {c : Rte} (hc : c ∈ rs.drop (i + 1)) : pLt rs[i].p c.p := by
  obtain ⟨j, hj, rfl⟩ := List.mem_iff_getElem.1 hc
  rw [List.length_drop] at hj
  rw [List.getElem_drop]
  exact (List.pairwise_iff_getElem.1 h.sorted) i (i + 1 + j) hi (by omega) (by omega)
structure Run (rs : List Rte) (i : Nat) (op out : List Rte) : Prop where
  kept : Kept (rs.take i) out
  chain : op.Pairwise fun x y => x.p.len < y.p.len ∧ PCov x.p y.p
  sub : ∀ c ∈ op, c ∈ out
  alive : ∀ c ∈ out, ∀ r ∈ rs.drop i, PCov c.p r.p → c ∈ op
theorem Run.start (rs : List Rte) : Run rs 0 [] [] :=
  ⟨⟨fun r h => (by cases h), List.Pairwise.nil, fun r h => (by cases h)⟩, List.Pairwise.nil, fun c h => (by cases h), fun c h => (by cases h)⟩
theorem take_succ_mem {rs : List Rte} {i : Nat} (hi : i < rs.length) {r : Rte} : r ∈ rs.take (i + 1) ↔ r ∈ rs.take i ∨ r = rs[i] := by
  rw [List.take_succ_eq_append_getElem hi, List.mem_append, List.mem_singleton]
theorem Run.top {rs : List Rte} (ht : TableR rs) {i : Nat} {op out : List Rte} (h : Run rs i op out) (hi : i < rs.length) {m : Nat} (hm : m ≤ op.length)
    (hno : ∀ (j : Nat) (hj : j < op.length), m ≤ j → ¬ PCov op[j].p rs[i].p) (hyes : ∀ h0 : 0 < m, PCov (op[m - 1]'(by omega)).p rs[i].p) :
    (∀ h0 : 0 < m, IsCover out rs[i].p (op[m - 1]'(by omega))) ∧ (m = 0 → ∀ c, ¬ IsCover out rs[i].p c) ∧ ∀ c ∈ out, PCov c.p rs[i].p → c ∈ op.take m := by
  have hcr := ht.canon _ (List.getElem_mem hi)
  have hco : ∀ c ∈ out, Canon c.p := fun c hc => ht.canon c (List.mem_of_mem_take (h.kept.sub c hc))
  have hdi : rs[i] ∈ rs.drop i := by
    rw [List.drop_eq_getElem_cons hi]; exact List.mem_cons_self
  have hin : ∀ c ∈ out, PCov c.p rs[i].p → ∃ (j : Nat) (hj : j < op.length), j < m ∧ op[j] = c := fun c hc hcov => by
    obtain ⟨j, hj, e⟩ := List.mem_iff_getElem.1 (h.alive c hc _ hdi hcov)
    refine ⟨j, hj, ?_, e⟩
    refine Classical.byContradiction fun hge => hno j hj (by omega) ?_
    rw [e]; exact hcov
  refine ⟨fun h0 => ⟨h.sub _ (List.getElem_mem _), ?_, (hyes h0).2, fun d hd hl hdm => ?_⟩, fun e c hc => ?_, fun c hc hcov => ?_⟩
  · have hy := hyes h0
    have hmem := h.sub _ (List.getElem_mem (show m - 1 < op.length by omega))
    refine Classical.byContradiction fun hge => ?_
    have e := same_cov (hco _ hmem) hcr (by have := hy.1; omega) hy
    exact (ht.before hi (h.kept.sub _ hmem)).ne e
  · obtain ⟨j, hj, hjm, rfl⟩ := hin d hd ⟨by omega, hdm⟩
    by_cases e : j = m - 1
    · subst e; exact Int.le_refl _
    · have := ((List.pairwise_iff_getElem.1 h.chain) j (m - 1) hj (by omega) (by omega)).1
      omega
  · have := hc.short
    obtain ⟨j, hj, hjm, _⟩ := hin c hc.mem ⟨by omega, hc.hit⟩
    omega
  · obtain ⟨j, hj, hjm, rfl⟩ := hin c hc hcov
    rw [List.mem_iff_getElem]
    exact ⟨j, by rw [List.length_take]; omega, by rw [List.getElem_take]⟩
theorem Run.skip {rs : List Rte} (ht : TableR rs) {i : Nat} {op out : List Rte} (h : Run rs i op out) (hi : i < rs.length) {m : Nat} (hm : m ≤ op.length) (h0 : 0 < m)
    (hno : ∀ (j : Nat) (hj : j < op.length), m ≤ j → ¬ PCov op[j].p rs[i].p) (hyes : PCov (op[m - 1]'(by omega)).p rs[i].p) (hact : (op[m - 1]'(by omega)).act = rs[i].act) : Run rs (i + 1) (op.take m) out := by
  obtain ⟨t1, _, t3⟩ := h.top ht hi hm hno fun _ => hyes
  have hnot : rs[i] ∉ out := fun hc => (ht.before hi (h.kept.sub _ hc)).ne rfl
  refine ⟨⟨fun r hr => (take_succ_mem hi).2 (.inl (h.kept.sub r hr)), h.kept.sorted, fun r hr => ?_⟩, h.chain.sublist (List.take_sublist _ _), fun c hc => h.sub c (List.mem_of_mem_take hc), fun c hc r hr hcov => ?_⟩
  · rcases (take_succ_mem hi).1 hr with hr | rfl
    · exact h.kept.iff r hr
    · exact ⟨fun hc => absurd hc hnot, fun hc => absurd hact (hc _ (t1 h0))⟩
  · refine t3 c hc (cov_between (ht.canon c (List.mem_of_mem_take (h.kept.sub c hc))) (ht.canon _ (List.getElem_mem hi)) (ht.canon r (List.mem_of_mem_drop hr)) (ht.before hi (h.kept.sub c hc)) (ht.after hi hr) hcov)
theorem Run.put {rs : List Rte} (ht : TableR rs) {i : Nat} {op out : List Rte} (h : Run rs i op out) (hi : i < rs.length) {m : Nat} (hm : m ≤ op.length)
    (hno : ∀ (j : Nat) (hj : j < op.length), m ≤ j → ¬ PCov op[j].p rs[i].p) (hyes : ∀ h0 : 0 < m, PCov (op[m - 1]'(by omega)).p rs[i].p ∧ (op[m - 1]'(by omega)).act ≠ rs[i].act) : Run rs (i + 1) (op.take m ++ [rs[i]]) (out ++ [rs[i]]) := by
  obtain ⟨t1, t2, t3⟩ := h.top ht hi hm hno fun h0 => (hyes h0).1
  have hcr := ht.canon _ (List.getElem_mem hi)
  have hco : ∀ c ∈ out, Canon c.p := fun c hc => ht.canon c (List.mem_of_mem_take (h.kept.sub c hc))
  have hnot : rs[i] ∉ out := fun hc => (ht.before hi (h.kept.sub _ hc)).ne rfl
  -- one behind covers none of those ahead
  have hcon : ∀ r ∈ rs.take (i + 1), ∀ c, IsCover (out ++ [rs[i]]) r.p c ↔ IsCover out r.p c := fun r hr c => by
    have hcan := ht.canon r (List.mem_of_mem_take hr)
    have key : ∀ d : Rte, d = rs[i] → d.p.len < r.p.len → rpMatch d.p r.p.a = true → False := fun d e hl hdm => by
      subst e
      rcases (take_succ_mem hi).1 hr with hr | rfl
      · exact (cov_lt hcr hcan ⟨by omega, hdm⟩ (fun e => by rw [e] at hl; omega)).asymm (ht.before hi hr)
      · omega
    constructor
    · rintro ⟨a, b, e, f⟩
      rcases List.mem_append.1 a with a | a
      · exact ⟨a, b, e, fun d hd => f d (List.mem_append_left _ hd)⟩
      · exact (key c (List.mem_singleton.1 a) b e).elim
    · rintro ⟨a, b, e, f⟩
      refine ⟨List.mem_append_left _ a, b, e, fun d hd hl hdm => ?_⟩
      rcases List.mem_append.1 hd with hd | hd
      · exact f d hd hl hdm
      · exact (key d (List.mem_singleton.1 hd) hl hdm).elim
  refine ⟨⟨fun r hr => ?_, ?_, fun r hr => ?_⟩, ?_, fun c hc => ?_, fun c hc r hr hcov => ?_⟩
  · rw [take_succ_mem hi]
    rcases List.mem_append.1 hr with hr | hr
    · exact .inl (h.kept.sub r hr)
    · exact .inr (List.mem_singleton.1 hr)
  · rw [List.pairwise_append]
    exact ⟨h.kept.sorted, List.pairwise_singleton _ _, fun x hx y hy => by rw [List.mem_singleton.1 hy]; exact ht.before hi (h.kept.sub x hx)⟩
  · rw [List.mem_append, List.mem_singleton]
    have hcon := hcon r hr
    rcases (take_succ_mem hi).1 hr with hr' | rfl
    · have hne : r ≠ rs[i] := fun e => (ht.before hi hr').ne (by rw [e])
      constructor
      · rintro (hc | hc)
        · exact fun c hq => (h.kept.iff r hr').1 hc c ((hcon c).1 hq)
        · exact absurd hc hne
      · exact fun hq => .inl ((h.kept.iff r hr').2 fun c hc => hq c ((hcon c).2 hc))
    · refine ⟨fun _ c hc => ?_, fun _ => .inr rfl⟩
      have hc := (hcon c).1 hc
      by_cases h0 : 0 < m
      · rw [IsCover.uniq (ht.take i) h.kept.sub hc (t1 h0)]
        exact (hyes h0).2
      · exact absurd hc (t2 (by omega) c)
  · rw [List.pairwise_append]
    refine ⟨h.chain.sublist (List.take_sublist _ _), List.pairwise_singleton _ _, fun x hx y hy => ?_⟩
    rw [List.mem_singleton.1 hy]
    obtain ⟨j, hj, rfl⟩ := List.mem_iff_getElem.1 hx
    rw [List.length_take] at hj
    have h0 : 0 < m := by omega
    have ht1 := t1 h0
    rw [List.getElem_take]
    by_cases e : j = m - 1
    · subst e
      exact ⟨ht1.short, (hyes h0).1⟩
    · obtain ⟨c1, c2⟩ := (List.pairwise_iff_getElem.1 h.chain) j (m - 1) (by omega) (by omega) (by omega)
      have hs := ht1.short
      exact ⟨by omega, PCov.trans (hco _ (h.sub _ (List.getElem_mem _))) (hco _ (h.sub _ (List.getElem_mem _))) c2 (hyes h0).1⟩
  · rcases List.mem_append.1 hc with hc | hc
    · exact List.mem_append_left _ (h.sub c (List.mem_of_mem_take hc))
    · exact List.mem_append_right _ hc
  · rcases List.mem_append.1 hc with hc | hc
    · exact List.mem_append_left _ (t3 c hc (cov_between (hco c hc) hcr (ht.canon r (List.mem_of_mem_drop hr)) (ht.before hi (h.kept.sub c hc)) (ht.after hi hr) hcov))
    · exact List.mem_append_right _ hc
theorem pop_exists (op : List Rte) (p : Pfx) : ∃ m, m ≤ op.length ∧ (∀ (j : Nat) (hj : j < op.length), m ≤ j → ¬ PCov op[j].p p) ∧ ∀ (h0 : 0 < m) (h1 : m - 1 < op.length), PCov op[m - 1].p p := by
  suffices H : ∀ n, n ≤ op.length → (∀ (j : Nat) (hj : j < op.length), n ≤ j → ¬ PCov op[j].p p) → ∃ m, m ≤ op.length ∧ (∀ (j : Nat) (hj : j < op.length), m ≤ j → ¬ PCov op[j].p p) ∧ ∀ (h0 : 0 < m) (h1 : m - 1 < op.length), PCov op[m - 1].p p from
    H op.length (Nat.le_refl _) fun j hj h => by omega
  intro n
  induction n with
  | zero => exact fun _ h => ⟨0, by omega, h, fun h0 => by omega⟩
  | succ n ih =>
    intro hn h
    by_cases hc : PCov (op[n]'(by omega)).p p
    · exact ⟨n + 1, hn, h, fun _ _ => hc⟩
    · refine ih (by omega) fun j hj hle => ?_
      by_cases e : j = n
      · subst e; exact hc
      · exact h j hj (by omega)
theorem run_exists {rs : List Rte} (ht : TableR rs) : ∀ i, i ≤ rs.length → ∃ op out, Run rs i op out
  | 0, _ => ⟨[], [], Run.start rs⟩
  | i + 1, hi => by
    obtain ⟨op, out, h⟩ := run_exists ht i (by omega)
    have hi' : i < rs.length := by omega
    obtain ⟨m, hm, hno, hyes⟩ := pop_exists op rs[i].p
    by_cases hk : ∃ h0 : 0 < m, (op[m - 1]'(by omega)).act = rs[i].act
    · obtain ⟨h0, hk⟩ := hk
      exact ⟨_, _, h.skip ht hi' hm h0 hno (hyes h0 (by omega)) hk⟩
    · exact ⟨_, _, h.put ht hi' hm hno fun h0 => ⟨hyes h0 (by omega), fun e => hk ⟨h0, e⟩⟩⟩
theorem Run.done {rs : List Rte} {op out : List Rte} (h : Run rs rs.length op out) : Kept rs out := by
  have := h.kept
  rwa [List.take_length] at this
theorem kept_exists {rs : List Rte} (ht : TableR rs) : ∃ S, Kept rs S := by
  obtain ⟨op, out, h⟩ := run_exists ht rs.length (Nat.le_refl _)
  exact ⟨out, h.done⟩
open Classical in
noncomputable def keepR (rs : List Rte) : List Rte := if h : ∃ S, Kept rs S then h.choose else []
theorem keepR_spec {rs : List Rte} (ht : TableR rs) : Kept rs (keepR rs) := by
  unfold keepR
  rw [dif_pos (kept_exists ht)]
  exact (kept_exists ht).choose_spec
/-! ### Length by length -/
structure RunL (rs : List Rte) (n i : Nat) (kept : List Rte) : Prop where
  sorted : kept.Pairwise fun x y => pLt x.p y.p
  iff : ∀ r, r ∈ kept ↔ r ∈ keepR rs ∧ (r.p.len < n ∨ r.p.len = n ∧ r ∈ rs.take i)
theorem RunL.other {rs : List Rte} {n i : Nat} {kept : List Rte} (h : RunL rs n i kept) (hi : i < rs.length) (hl : rs[i].p.len ≠ n) : RunL rs n (i + 1) kept := ⟨h.sorted, fun r => by
  rw [h.iff r, take_succ_mem hi]
  constructor
  · rintro ⟨a, b | ⟨b, c⟩⟩
    · exact ⟨a, .inl b⟩
    · exact ⟨a, .inr ⟨b, .inl c⟩⟩
  · rintro ⟨a, b | ⟨b, c | c⟩⟩
    · exact ⟨a, .inl b⟩
    · exact ⟨a, .inr ⟨b, c⟩⟩
    · subst c; exact absurd b hl⟩
theorem RunL.cover {rs : List Rte} {n i : Nat} {kept : List Rte} (h : RunL rs n i kept) {p : Pfx} (hp : p.len = n) {c : Rte} : IsCover kept p c ↔ IsCover (keepR rs) p c := IsCover.congr fun d hd => by
  rw [h.iff d]
  exact ⟨fun q => q.1, fun q => ⟨q, .inl (by omega)⟩⟩
theorem RunL.drop {rs : List Rte} (ht : TableR rs) {n i : Nat} {kept : List Rte} (h : RunL rs n i kept) (hi : i < rs.length) (hl : rs[i].p.len = n) {c : Rte} (hc : IsCover kept rs[i].p c) (ha : c.act = rs[i].act) : RunL rs n (i + 1) kept := ⟨h.sorted, fun r => by
  have hnot : rs[i] ∉ keepR rs := fun hm => ((keepR_spec ht).iff _ (List.getElem_mem hi)).1 hm c ((h.cover hl).1 hc) ha
  rw [h.iff r, take_succ_mem hi]
  constructor
  · rintro ⟨a, b | ⟨b, c⟩⟩
    · exact ⟨a, .inl b⟩
    · exact ⟨a, .inr ⟨b, .inl c⟩⟩
  · rintro ⟨a, b | ⟨b, c | c⟩⟩
    · exact ⟨a, .inl b⟩
    · exact ⟨a, .inr ⟨b, c⟩⟩
    · subst c; exact absurd a hnot⟩
def putR (l : List Rte) (r : Rte) : List Rte := (l.takeWhile fun x => decide (pCmp x.p r.p ≤ 0)) ++ r :: (l.dropWhile fun x => decide (pCmp x.p r.p ≤ 0))
theorem putR_mem {l : List Rte} {r x : Rte} : x ∈ putR l r ↔ x = r ∨ x ∈ l := by
  unfold putR
  have : x ∈ l ↔ x ∈ (l.takeWhile fun x => decide (pCmp x.p r.p ≤ 0)) ∨ x ∈ (l.dropWhile fun x => decide (pCmp x.p r.p ≤ 0)) := by
    rw [← List.mem_append, List.takeWhile_append_dropWhile]
  rw [List.mem_append, List.mem_cons, this]
  constructor
  · rintro (h | h | h)
    · exact .inr (.inl h)
    · exact .inl h
    · exact .inr (.inr h)
  · rintro (h | h | h)
    · exact .inr (.inl h)
    · exact .inl h
    · exact .inr (.inr h)
theorem putR_sorted {r : Rte} : ∀ {l : List Rte}, l.Pairwise (fun x y => pLt x.p y.p) → (∀ x ∈ l, x.p ≠ r.p) → (putR l r).Pairwise fun x y => pLt x.p y.p
  | [], _, _ => List.pairwise_singleton _ _
  | x :: l, h, hne => by
    obtain ⟨h1, h2⟩ := List.pairwise_cons.1 h
    have hx := hne x List.mem_cons_self
    by_cases hc : pCmp x.p r.p ≤ 0
    · have e : putR (x :: l) r = x :: putR l r := by
        unfold putR
        rw [List.takeWhile_cons_of_pos (by simpa using hc), List.dropWhile_cons_of_pos (by simpa using hc), List.cons_append]
      rw [e]
      refine List.pairwise_cons.2 ⟨fun y hy => ?_, putR_sorted h2 fun y hy => hne y (List.mem_cons_of_mem _ hy)⟩
      rcases putR_mem.1 hy with rfl | hy
      · rcases pLt_or hx with h | h
        · exact h
        · have := pcmp_pos.2 h; omega
      · exact h1 y hy
    · have e : putR (x :: l) r = r :: x :: l := by
        unfold putR
        rw [List.takeWhile_cons_of_neg (by simpa using hc), List.dropWhile_cons_of_neg (by simpa using hc), List.nil_append]
      rw [e]
      have hlt : pLt r.p x.p := pcmp_pos.1 (by omega)
      refine List.pairwise_cons.2 ⟨fun y hy => ?_, h⟩
      rcases List.mem_cons.1 hy with rfl | hy
      · exact hlt
      · exact hlt.trans (h1 y hy)
theorem RunL.put {rs : List Rte} (ht : TableR rs) {n i : Nat} {kept : List Rte} (h : RunL rs n i kept) (hi : i < rs.length) (hl : rs[i].p.len = n) (hc : ∀ c, IsCover kept rs[i].p c → c.act ≠ rs[i].act) : (∀ x ∈ kept, x.p ≠ rs[i].p) ∧ RunL rs n (i + 1) (putR kept rs[i]) := by
  have hk : rs[i] ∈ keepR rs := ((keepR_spec ht).iff _ (List.getElem_mem hi)).2 fun c hq => hc c ((h.cover hl).2 hq)
  have hne : ∀ x ∈ kept, x.p ≠ rs[i].p := fun x hx e => by
    obtain ⟨a, b⟩ := (h.iff x).1 hx
    have e2 := sorted_same ht.sorted ((keepR_spec ht).sub x a) (List.getElem_mem hi) e
    rcases b with b | ⟨_, b⟩
    · rw [e] at b; omega
    · exact (ht.before hi b).ne e
  refine ⟨hne, putR_sorted h.sorted hne, fun r => ?_⟩
  rw [putR_mem, h.iff r, take_succ_mem hi]
  constructor
  · rintro (rfl | ⟨a, b | ⟨b, c⟩⟩)
    · exact ⟨hk, .inr ⟨hl, .inr rfl⟩⟩
    · exact ⟨a, .inl b⟩
    · exact ⟨a, .inr ⟨b, .inl c⟩⟩
  · rintro ⟨a, b | ⟨b, c | c⟩⟩
    · exact .inr ⟨a, .inl b⟩
    · exact .inr ⟨a, .inr ⟨b, c⟩⟩
    · exact .inl c
theorem RunL.done {rs : List Rte} (ht : TableR rs) {kept : List Rte} (h : RunL rs 129 0 kept) : kept = keepR rs :=
  sorted_eq h.sorted (keepR_spec ht).sorted fun r => by
    rw [h.iff r]
    exact ⟨fun q => q.1, fun q => ⟨q, .inl (by have := (ht.canon r ((keepR_spec ht).sub r q)).hi; omega)⟩⟩
end Go.Proofs.Ytkfmammkbmhfaaa

/- Trees of bits, in plain Lean: what a route put, or dropped, does. -/
namespace Go.Proofs.Ytkfmammkbmhfaaa
set_option linter.unusedSimpArgs false
set_option linter.unusedVariables false
open Go
def Tight (pos : List Bool → Nat) (act : List Bool → Int) : Prop := ∀ q, pos q ≠ 0 → q = [] ∨ ∃ r, act (q ++ r) ≠ 0
def pBits (p : Pfx) : List Bool := fstB p.a p.len.toNat
theorem pBits_len {p : Pfx} (h : Canon p) : ((pBits p).length : Int) = p.len := by have := h.lo; simp only [pBits, fstB_len]; omega
theorem fstB_get {a b : A2} {k : Nat} (h : fstB a k = fstB b k) : ∀ i, i < k → abit a i = abit b i := fun i hi => by
  have := congrArg (fun l => l[i]?) h
  simpa [fstB, hi] using this
theorem fstB_congr {a b : A2} {k : Nat} (h : ∀ i, i < k → abit a i = abit b i) : fstB a k = fstB b k := List.map_congr_left fun i hi => h i (List.mem_range.1 hi)
theorem pBits_inj {p q : Pfx} (hp : Canon p) (hq : Canon q) (h : pBits p = pBits q) : p = q := by
  have hl : p.len = q.len := by rw [← pBits_len hp, ← pBits_len hq, h]
  have hb : ∀ i : Nat, (i : Int) < p.len → abit p.a i = abit q.a i := fun i hi => by
    unfold pBits at h
    rw [← hl] at h
    exact fstB_get h i (by omega)
  have ha : p.a = q.a := ok_ext hp.ok hq.ok fun i hi => by
    by_cases c : (i : Int) < p.len
    · exact hb i c
    · rw [hp.zero i hi (by omega), hq.zero i hi (by omega)]
  cases p; cases q; simp at hl ha; rw [hl, ha]
structure Acts (rs : List Rte) (act : List Bool → Int) : Prop where
  is : ∀ r ∈ rs, act (pBits r.p) = r.act
  only : ∀ q, act q ≠ 0 → ∃ r ∈ rs, pBits r.p = q
structure TabW (w : Int) (rs : List Rte) : Prop extends TableR rs where
  len : ∀ r ∈ rs, r.p.len ≤ w
def Tri (w : Int) (l : List Nd) (f : List Nat) (rs : List Rte) : Prop := ∃ pos dom act, Holds l f pos dom act ∧ Tight pos act ∧ Acts rs act ∧ TabW w rs
section
variable {l : List Nd} {f : List Nat} {pos : List Bool → Nat} {dom : List (List Bool)} {act : List Bool → Int}
theorem Holds.putTo (h : Holds l f pos dom act) (a : A2) : ∀ k, ∃ pos' dom', Holds (putTo l f a k).1 (putTo l f a k).2.1 pos' dom' act ∧ (putTo l f a k).2.2 = pos' (fstB a k) ∧ pos' (fstB a k) ≠ 0 ∧ ∀ q, pos' q ≠ 0 ↔ pos q ≠ 0 ∨ ∃ j, j ≤ k ∧ q = fstB a j
  | 0 => ⟨pos, dom, h, h.root.symm, by rw [fstB_zero, h.root]; omega, fun q => ⟨.inl, fun hq => by
      rcases hq with hq | ⟨j, hj, rfl⟩
      · exact hq
      · rw [show j = 0 by omega, fstB_zero, h.root]; omega⟩⟩
  | k + 1 => by
    obtain ⟨pos', dom', h1, h2, h3, h4⟩ := Holds.putTo h a k
    have hnch := h1.nch (fstB a k) (abit a k)
    rw [← fstB_succ] at hnch
    have est : Proofs.Ytkfmammkbmhfaaa.putTo l f a (k + 1) = stepT (Proofs.Ytkfmammkbmhfaaa.putTo l f a k).1 (Proofs.Ytkfmammkbmhfaaa.putTo l f a k).2.1 (Proofs.Ytkfmammkbmhfaaa.putTo l f a k).2.2 (abit a k) := rfl
    rw [est]
    generalize Proofs.Ytkfmammkbmhfaaa.putTo l f a k = T at *
    unfold stepT
    rw [h2, hnch]
    by_cases hz : pos' (fstB a (k + 1)) = 0
    · rw [if_pos hz]
      have hs := h1.step (b := abit a k) h3 (by rw [← fstB_succ]; exact hz)
      rw [← fstB_succ] at hs
      refine ⟨_, _, hs, by rw [if_pos rfl], by rw [if_pos rfl]; exact h1.fresh.1, fun q => ?_⟩
      by_cases e : q = fstB a (k + 1)
      · rw [if_pos e]
        exact ⟨fun _ => .inr ⟨k + 1, Nat.le_refl _, e⟩, fun _ => h1.fresh.1⟩
      · rw [if_neg e, h4 q]
        constructor
        · rintro (hq | ⟨j, hj, hq⟩)
          · exact .inl hq
          · exact .inr ⟨j, by omega, hq⟩
        · rintro (hq | ⟨j, hj, hq⟩)
          · exact .inl hq
          · by_cases ej : j = k + 1
            · subst ej; exact absurd hq e
            · exact .inr ⟨j, by omega, hq⟩
    · rw [if_neg hz]
      refine ⟨pos', dom', h1, rfl, hz, fun q => ?_⟩
      rw [h4 q]
      constructor
      · rintro (hq | ⟨j, hj, hq⟩)
        · exact .inl hq
        · exact .inr ⟨j, by omega, hq⟩
      · rintro (hq | ⟨j, hj, hq⟩)
        · exact .inl hq
        · by_cases ej : j = k + 1
          · subst ej hq
            exact (h4 _).1 hz
          · exact .inr ⟨j, by omega, hq⟩
def putL (l : List Nd) (f : List Nat) (a : A2) (n : Nat) (v : Int) : List Nd := sayT (putTo l f a n).1 (putTo l f a n).2.2 v
def putF (l : List Nd) (f : List Nat) (a : A2) (n : Nat) : List Nat := (putTo l f a n).2.1
theorem Holds.put (h : Holds l f pos dom act) (ht : Tight pos act) (a : A2) (n : Nat) {v : Int} (hv : v ≠ 0) : ∃ pos' dom', Holds (putL l f a n v) (putF l f a n) pos' dom' (fun r => if r = fstB a n then v else act r) ∧ Tight pos' (fun r => if r = fstB a n then v else act r) := by
  obtain ⟨pos', dom', h1, h2, h3, h4⟩ := h.putTo a n
  refine ⟨pos', dom', ?_, fun q hq => ?_⟩
  · unfold putL putF
    rw [h2]
    exact h1.say h3 v
  · rcases (h4 q).1 hq with hq | ⟨j, hj, rfl⟩
    · rcases ht q hq with e | ⟨r, hr⟩
      · exact .inl e
      · refine .inr ⟨r, ?_⟩
        show (if q ++ r = fstB a n then v else act (q ++ r)) ≠ 0
        split
        · exact hv
        · exact hr
    · obtain ⟨r, hr⟩ := fstB_add a j n hj
      exact .inr ⟨r, by show (if fstB a j ++ r = fstB a n then v else _) ≠ 0; rw [if_pos hr.symm]; exact hv⟩
theorem Holds.pruneTo {a : A2} (n : Nat) {way : Nat → Nat} : ∀ (k : Nat) (l : List Nd) (f : List Nat) (pos : List Bool → Nat) (dom : List (List Bool)), k ≤ n → Holds l f pos dom act → (∀ j, j ≤ k → way j = pos (fstB a j) ∧ pos (fstB a j) ≠ 0) →
    (∀ q, pos q ≠ 0 → q = [] ∨ (∃ r, act (q ++ r) ≠ 0) ∨ ∃ j, j ≤ k ∧ q = fstB a j) →
    ∃ pos' dom', Holds (pruneTo a way k l f).1 (pruneTo a way k l f).2 pos' dom' act ∧ Tight pos' act
  | 0, l, f, pos, dom, _, h, _, ht => ⟨pos, dom, h, fun q hq => by
      rcases ht q hq with e | e | ⟨j, hj, e⟩
      · exact .inl e
      · exact .inr e
      · exact .inl (by rw [e, show j = 0 by omega]; rfl)⟩
  | k + 1, l, f, pos, dom, hk, h, hw, ht => by
    obtain ⟨w1, p1⟩ := hw (k + 1) (Nat.le_refl _)
    obtain ⟨w0, p0⟩ := hw k (Nat.le_succ _)
    unfold Proofs.Ytkfmammkbmhfaaa.pruneTo
    by_cases hz : nth l (way (k + 1)) = nd0
    · rw [if_pos hz]
      rw [w1] at hz ⊢
      rw [w0]
      rw [fstB_succ] at p1 hz ⊢
      have hp := h.prune p1 hz
      refine Holds.pruneTo n k _ _ _ _ (by omega) hp (fun j hj => ?_) (fun q hq => ?_)
      · have hne : fstB a j ≠ fstB a k ++ [abit a k] := fun e => by have := congrArg List.length e; simp [fstB_len] at this; omega
        rw [if_neg hne]
        exact hw j (by omega)
      · by_cases e : q = fstB a k ++ [abit a k]
        · rw [if_pos e] at hq; exact absurd rfl hq
        · rw [if_neg e] at hq
          rcases ht q hq with e1 | e1 | ⟨j, hj, e1⟩
          · exact .inl e1
          · exact .inr (.inl e1)
          · by_cases ej : j = k + 1
            · subst ej; rw [fstB_succ] at e1; exact absurd e1 e
            · exact .inr (.inr ⟨j, by omega, e1⟩)
    · rw [if_neg hz]
      refine ⟨pos, dom, h, ?_⟩
      -- what is left at the end of the way leads to a route
      have hwit : ∃ r, act (fstB a (k + 1) ++ r) ≠ 0 := by
        rw [w1] at hz
        have hnode := h.node _ p1
        by_cases ha : act (fstB a (k + 1)) = 0
        · have hch : ∃ b, pos (fstB a (k + 1) ++ [b]) ≠ 0 := by
            refine Classical.byContradiction fun hc => hz ?_
            have hb : ∀ b, pos (fstB a (k + 1) ++ [b]) = 0 := fun b => Decidable.byContradiction fun hh => hc ⟨b, hh⟩
            rw [hnode, hb, hb, ha]; rfl
          obtain ⟨b, hb⟩ := hch
          rcases ht _ hb with e | ⟨r, hr⟩ | ⟨j, hj, e⟩
          · exact absurd e (snoc_ne _ _)
          · exact ⟨[b] ++ r, by rw [← List.append_assoc]; exact hr⟩
          · have := congrArg List.length e; simp [fstB_len] at this; omega
        · exact ⟨[], by rw [List.append_nil]; exact ha⟩
      intro q hq
      rcases ht q hq with e | e | ⟨j, hj, e⟩
      · exact .inl e
      · exact .inr e
      · obtain ⟨r, hr⟩ := hwit
        obtain ⟨s, hs⟩ := fstB_add a j (k + 1) hj
        exact .inr ⟨s ++ r, by rw [e, ← List.append_assoc, ← hs]; exact hr⟩
def dropLF (l : List Nd) (f : List Nat) (a : A2) (n : Nat) : List Nd × List Nat := pruneTo a (wlk l a) n (sayT l (wlk l a n) 0) f
theorem Holds.drop (h : Holds l f pos dom act) (ht : Tight pos act) (a : A2) (n : Nat) (hn : act (fstB a n) ≠ 0) : ∃ pos' dom', Holds (dropLF l f a n).1 (dropLF l f a n).2 pos' dom' (fun r => if r = fstB a n then 0 else act r) ∧ Tight pos' (fun r => if r = fstB a n then 0 else act r) := by
  have hp := h.actz _ hn
  unfold dropLF
  rw [h.wlk a n]
  have hpre : ∀ j, j ≤ n → pos (fstB a j) ≠ 0 := by
    intro j hj
    obtain ⟨d, hd⟩ : ∃ d, n = j + d := ⟨n - j, by omega⟩
    induction d generalizing j with
    | zero => rw [Nat.add_zero] at hd; rw [← hd]; exact hp
    | succ d ih => have := ih (j + 1) (by omega) (by omega); rw [fstB_succ] at this; exact h.down _ _ this
  refine Holds.pruneTo n n _ _ pos dom (Nat.le_refl _) (h.say hp 0) (fun j hj => ⟨h.wlk a j, hpre j hj⟩) (fun q hq => ?_)
  rcases ht q hq with e | ⟨r, hr⟩
  · exact .inl e
  · by_cases e : q ++ r = fstB a n
    · exact .inr (.inr (fstB_pre e))
    · exact .inr (.inl ⟨r, by rw [if_neg e]; exact hr⟩)
end
/-! ### Tables -/
def dropR (rs : List Rte) (p : Pfx) : List Rte := rs.filter fun r => !decide (r.p = p)
theorem dropR_mem {rs : List Rte} {p : Pfx} {r : Rte} : r ∈ dropR rs p ↔ r ∈ rs ∧ r.p ≠ p := by simp [dropR]
def findR (rs : List Rte) (p : Pfx) : Option Rte := rs.find? fun r => decide (r.p = p)
theorem findR_none {rs : List Rte} {p : Pfx} : findR rs p = none ↔ ∀ r ∈ rs, r.p ≠ p := by simp [findR]
theorem findR_some {rs : List Rte} {p : Pfx} {r : Rte} (h : findR rs p = some r) : r ∈ rs ∧ r.p = p := ⟨List.mem_of_find?_eq_some h, by simpa using List.find?_some h⟩
def getR (rs : List Rte) (p : Pfx) : Int := match findR rs p with | some r => r.act | none => 0
theorem TabW.drop {w : Int} {rs : List Rte} (h : TabW w rs) (p : Pfx) : TabW w (dropR rs p) where
  canon := fun r hr => h.canon r (dropR_mem.1 hr).1
  act := fun r hr => h.act r (dropR_mem.1 hr).1
  sorted := h.sorted.filter _
  len := fun r hr => h.len r (dropR_mem.1 hr).1
theorem TabW.put {w : Int} {rs : List Rte} (h : TabW w rs) {r : Rte} (hc : Canon r.p) (ha : 1 ≤ r.act ∧ r.act ≤ 255) (hl : r.p.len ≤ w) : TabW w (putR (dropR rs r.p) r) where
  canon := fun s hs => by
    rcases putR_mem.1 hs with rfl | hs
    · exact hc
    · exact (h.drop r.p).canon s hs
  act := fun s hs => by
    rcases putR_mem.1 hs with rfl | hs
    · exact ha
    · exact (h.drop r.p).act s hs
  sorted := putR_sorted (h.drop r.p).sorted fun x hx => (dropR_mem.1 hx).2
  len := fun s hs => by
    rcases putR_mem.1 hs with rfl | hs
    · exact hl
    · exact (h.drop r.p).len s hs
theorem putR_length (l : List Rte) (r : Rte) : (putR l r).length = l.length + 1 := by
  have : (l.takeWhile fun x => decide (pCmp x.p r.p ≤ 0)).length + (l.dropWhile fun x => decide (pCmp x.p r.p ≤ 0)).length = l.length := by rw [← List.length_append, List.takeWhile_append_dropWhile]
  unfold putR
  rw [List.length_append, List.length_cons]
  omega
theorem dropR_none {rs : List Rte} {p : Pfx} (h : findR rs p = none) : dropR rs p = rs := by
  unfold dropR
  rw [List.filter_eq_self]
  intro r hr
  have := findR_none.1 h r hr
  simpa using this
theorem dropR_length {rs : List Rte} (hs : rs.Pairwise fun x y => pLt x.p y.p) {p : Pfx} {r : Rte} (h : findR rs p = some r) : (dropR rs p).length + 1 = rs.length := by
  obtain ⟨hm, rfl⟩ := findR_some h
  clear h
  induction rs with
  | nil => cases hm
  | cons x rs ih =>
    obtain ⟨h1, h2⟩ := List.pairwise_cons.1 hs
    rcases List.mem_cons.1 hm with rfl | hm
    · have : dropR rs r.p = rs := dropR_none (findR_none.2 fun s hs => fun e => (h1 s hs).ne e.symm)
      unfold dropR at this ⊢
      rw [List.filter_cons_of_neg (by simp), this]; simp
    · have hne : x.p ≠ r.p := (h1 r hm).ne
      have := ih h2 hm
      unfold dropR at this ⊢
      rw [List.filter_cons_of_pos (by simpa using hne)]
      simp only [List.length_cons]; omega
section
variable {w : Int} {l : List Nd} {f : List Nat} {rs : List Rte}
theorem Tri.start (hw : w = 32 ∨ w = 128) : Tri w [nd0, nd0] [] [] := ⟨_, _, _, Holds.start, fun q hq => .inl (by by_cases e : q = [] <;> simp [e] at hq ⊢), ⟨fun r hr => (by cases hr), fun q hq => absurd rfl hq⟩, ⟨⟨fun r hr => (by cases hr), fun r hr => (by cases hr), List.Pairwise.nil⟩, fun r hr => (by cases hr)⟩⟩
theorem Tri.tab (h : Tri w l f rs) : TabW w rs := by obtain ⟨_, _, _, _, _, _, h⟩ := h; exact h
theorem Acts.get {act : List Bool → Int} (h : Acts rs act) (ht : TabW w rs) {p : Pfx} (hp : Canon p) : act (pBits p) = getR rs p := by
  unfold getR
  cases hf : findR rs p with
  | some r => obtain ⟨h1, rfl⟩ := findR_some hf; exact h.is r h1
  | none =>
    refine Decidable.byContradiction fun hc => ?_
    obtain ⟨r, hr, e⟩ := h.only _ hc
    exact findR_none.1 hf r hr (pBits_inj (ht.canon r hr) hp e)
theorem Tri.get (h : Tri w l f rs) {p : Pfx} (hp : Canon p) : (nth l (wlk l p.a p.len.toNat)).act = getR rs p := by
  obtain ⟨pos, dom, act, h1, h2, h3, h4⟩ := h
  rw [h1.wlk]
  rw [← h3.get h4 hp]
  show _ = act (fstB p.a p.len.toNat)
  by_cases hz : pos (fstB p.a p.len.toNat) = 0
  · rw [hz, h1.zero]
    exact (Decidable.byContradiction fun hc => h1.actz _ (Ne.symm hc) hz)
  · rw [h1.node _ hz]
theorem Tri.put (h : Tri w l f rs) {r : Rte} (hc : Canon r.p) (ha : 1 ≤ r.act ∧ r.act ≤ 255) (hl : r.p.len ≤ w) : Tri w (putL l f r.p.a r.p.len.toNat r.act) (putF l f r.p.a r.p.len.toNat) (putR (dropR rs r.p) r) := by
  obtain ⟨pos, dom, act, h1, h2, h3, h4⟩ := h
  obtain ⟨pos', dom', g1, g2⟩ := h1.put h2 r.p.a r.p.len.toNat (v := r.act) (by omega)
  refine ⟨pos', dom', _, g1, g2, ⟨fun s hs => ?_, fun q hq => ?_⟩, h4.put hc ha hl⟩
  · rcases putR_mem.1 hs with rfl | hs
    · exact if_pos rfl
    · obtain ⟨m1, m2⟩ := dropR_mem.1 hs
      rw [if_neg (fun e : pBits s.p = fstB r.p.a r.p.len.toNat => m2 (pBits_inj (h4.canon s m1) hc e))]
      exact h3.is s m1
  · by_cases e : q = fstB r.p.a r.p.len.toNat
    · exact ⟨r, putR_mem.2 (.inl rfl), e.symm⟩
    · rw [if_neg e] at hq
      obtain ⟨s, hs, hse⟩ := h3.only q hq
      refine ⟨s, putR_mem.2 (.inr (dropR_mem.2 ⟨hs, fun hh => e ?_⟩)), hse⟩
      rw [← hse, hh]; rfl
theorem Tri.drop (h : Tri w l f rs) {p : Pfx} {r : Rte} (hr : findR rs p = some r) : Tri w (dropLF l f p.a p.len.toNat).1 (dropLF l f p.a p.len.toNat).2 (dropR rs p) := by
  obtain ⟨pos, dom, act, h1, h2, h3, h4⟩ := h
  obtain ⟨hm, rfl⟩ := findR_some hr
  have hra := h4.act r hm
  have hac : act (fstB r.p.a r.p.len.toNat) ≠ 0 := by
    have := h3.is r hm
    unfold pBits at this
    rw [this]; omega
  obtain ⟨pos', dom', g1, g2⟩ := h1.drop h2 r.p.a r.p.len.toNat hac
  refine ⟨pos', dom', _, g1, g2, ⟨fun s hs => ?_, fun q hq => ?_⟩, h4.drop _⟩
  · obtain ⟨m1, m2⟩ := dropR_mem.1 hs
    rw [if_neg (fun e : pBits s.p = fstB r.p.a r.p.len.toNat => m2 (pBits_inj (h4.canon s m1) (h4.canon r hm) e))]
    exact h3.is s m1
  · by_cases e : q = fstB r.p.a r.p.len.toNat
    · rw [if_pos e] at hq; exact absurd rfl hq
    · rw [if_neg e] at hq
      obtain ⟨s, hs, hse⟩ := h3.only q hq
      exact ⟨s, dropR_mem.2 ⟨hs, fun hh => e (by rw [← hse, hh]; rfl)⟩, hse⟩
end
end Go.Proofs.Ytkfmammkbmhfaaa

/- The best route for an address, in plain Lean. -/
namespace Go.Proofs.Ytkfmammkbmhfaaa
set_option linter.unusedSimpArgs false
set_option linter.unusedVariables false
open Go
def bestAtO (l : List Rte) (a : A2) (n : Int) : Option Rte := l.find? fun r => decide (r.p.len = n) && rpMatch r.p a
def bestTo' (l : List Rte) (a : A2) : Nat → Option Rte
  | 0 => none
  | k + 1 => (bestAtO l a k).or (bestTo' l a k)
def bestO (l : List Rte) (a : A2) : Option Rte := bestTo' l a 129
theorem bestAt_none {l : List Rte} {a : A2} {n : Int} : bestAtO l a n = none ↔ ∀ r ∈ l, r.p.len = n → rpMatch r.p a = false := by
  unfold bestAtO
  rw [List.find?_eq_none]
  refine forall_congr' fun r => forall_congr' fun _ => ?_
  rw [Bool.and_eq_true, decide_eq_true_eq]
  constructor
  · intro h e
    cases hq : rpMatch r.p a with
    | false => rfl
    | true => exact absurd ⟨e, hq⟩ h
  · rintro h ⟨e, q⟩
    rw [h e] at q; cases q
theorem bestTo_skip {l : List Rte} {a : A2} {n : Nat} : ∀ m, n ≤ m → (∀ k : Nat, n ≤ k → k < m → bestAtO l a k = none) → bestTo' l a m = bestTo' l a n
  | 0, h, _ => by rw [show n = 0 by omega]
  | m + 1, h, hk => by
    by_cases e : n = m + 1
    · rw [e]
    · rw [bestTo', hk m (by omega) (by omega), Option.none_or]
      exact bestTo_skip m (by omega) fun k h1 h2 => hk k h1 (by omega)
theorem best_hit' {l : List Rte} {a : A2} {n : Nat} {r : Rte} (hn : n ≤ 128) (hk : ∀ k : Nat, n < k → k ≤ 128 → bestAtO l a k = none) (h : bestAtO l a n = some r) : bestO l a = some r := by
  unfold bestO
  rw [bestTo_skip (n := n + 1) 129 (by omega) fun k h1 h2 => hk k (by omega) (by omega), bestTo', h]
  rfl
theorem best_none' {l : List Rte} {a : A2} (hk : ∀ k : Nat, k ≤ 128 → bestAtO l a k = none) : bestO l a = none := by
  unfold bestO
  rw [bestTo_skip (n := 0) 129 (by omega) fun k h1 h2 => hk k (by omega)]
  rfl
theorem bestO_spec {l : List Rte} (hc : ∀ r ∈ l, Canon r.p) (a : A2) : (bestO l a = none ∧ ∀ r ∈ l, rpMatch r.p a = false) ∨ ∃ r ∈ l, bestO l a = some r ∧ rpMatch r.p a = true ∧ ∀ s ∈ l, rpMatch s.p a = true → s.p.len ≤ r.p.len := by
  suffices H : ∀ m : Nat, m ≤ 129 → (∀ k : Nat, m ≤ k → k < 129 → bestAtO l a k = none) → ((bestO l a = none ∧ ∀ r ∈ l, rpMatch r.p a = false) ∨ ∃ r ∈ l, bestO l a = some r ∧ rpMatch r.p a = true ∧ ∀ s ∈ l, rpMatch s.p a = true → s.p.len ≤ r.p.len) from
    H 129 (Nat.le_refl _) fun k h1 h2 => by omega
  intro m
  induction m with
  | zero =>
    intro _ hk
    refine .inl ⟨best_none' fun k hk' => hk k (by omega) (by omega), fun r hr => ?_⟩
    have := hc r hr
    exact (bestAt_none.1 (hk r.p.len.toNat (by omega) (by have := this.hi; omega))) r hr (by have := this.lo; omega)
  | succ m ih =>
    intro hm hk
    cases hb : bestAtO l a m with
    | none =>
      refine ih (by omega) fun k h1 h2 => ?_
      by_cases e : k = m
      · subst e; exact hb
      · exact hk k (by omega) h2
    | some r =>
      have h1 := List.mem_of_find?_eq_some hb
      have h2 := List.find?_some hb
      rw [Bool.and_eq_true, decide_eq_true_eq] at h2
      refine .inr ⟨r, h1, best_hit' (by omega) (fun k h3 h4 => hk k (by omega) (by omega)) hb, h2.2, fun s hs hsm => ?_⟩
      refine Classical.byContradiction fun hlt => ?_
      have hcs := hc s hs
      have := bestAt_none.1 (hk s.p.len.toNat (by have := h2.1; omega) (by have := hcs.hi; omega)) s hs (by have := hcs.lo; omega)
      rw [this] at hsm; cases hsm
end Go.Proofs.Ytkfmammkbmhfaaa
