/- What the functions compute, in plain Lean. -/
import Derived.Test.YtjmnnkhdadoehaaGreatYBase
import Derived.Laws.Bits
namespace Go.Proofs.YtjmnnkhdadoehaaGreat
set_option linter.unusedSimpArgs false
set_option linter.unusedVariables false
open Go
def aAnd (a b : A2) : A2 := ⟨bits .and .u64 a.x b.x, bits .and .u64 a.y b.y⟩
def aXor (a b : A2) : A2 := ⟨bits .xor .u64 a.x b.x, bits .xor .u64 a.y b.y⟩
def aDiffer (a b m : A2) : A2 := aAnd (aXor a b) m
def wClean (x : W2) : W2 := ⟨aAnd x.v x.m, x.m⟩
def wRight (x : W2) : Bool := same x (wClean x)
def wMatch (x : W2) (a : A2) : Bool := same (aDiffer x.v a x.m) ⟨0, 0⟩
def wMeet (x y : W2) : Bool := same (aDiffer x.v y.v (aAnd x.m y.m)) ⟨0, 0⟩
def eAbove (x y : Ent) : Bool := decide (y.len < x.len) && wMeet x.w y.w
def eAlike (x y : Ent) : Bool := same x.w y.w && (x.len == y.len)
def cmpInt (a b : Int) : Int := if a < b then -1 else if b < a then 1 else 0
def clamp (n : Int) : Int := if n < 0 then 0 else if 128 < n then 128 else n
def aCompare (a b : A2) : Int := if a.x < b.x then -1 else if b.x < a.x then 1 else if a.y < b.y then -1 else if b.y < a.y then 1 else 0
def maskW (k : Int) : Int := bits .xor .u64 IntKind.u64.max (18446744073709551615 / 2 ^ k.toNat)
theorem maskW_0 : bits BinOp.xor IntKind.u64 IntKind.u64.max 18446744073709551615 = maskW 0 := by unfold maskW; rfl
theorem maskW_64 : bits BinOp.xor IntKind.u64 IntKind.u64.max 0 = maskW 64 := by unfold maskW; rfl
theorem maskW_n (n : Int) : bits BinOp.xor IntKind.u64 IntKind.u64.max (18446744073709551615 / 2 ^ n.toNat) = maskW n := rfl
def aMask (n : Int) : A2 := if n ≤ 0 then ⟨maskW 0, maskW 0⟩ else if 128 ≤ n then ⟨maskW 64, maskW 64⟩ else if n ≤ 64 then ⟨maskW n, maskW 0⟩ else ⟨maskW 64, maskW (n - 64)⟩
def aCut (a : A2) (n : Int) : A2 := aAnd a (aMask n)
def pMake (a : A2) (n : Int) : Pfx := ⟨aCut a (clamp n), clamp n⟩
def wOf (p : Pfx) : W2 := ⟨(pMake p.a p.len).a, aMask (pMake p.a p.len).len⟩
def eOf (p : Pfx) (action : Int) : Ent := ⟨wOf p, (pMake p.a p.len).len, action⟩
def eRight (x : Ent) : Bool := wRight x.w && decide (0 ≤ x.len) && decide (x.len ≤ 128) && decide (1 ≤ x.act) && decide (x.act ≤ 255)
end Go.Proofs.YtjmnnkhdadoehaaGreat

/- Bits of an address, in plain Lean. -/
namespace Go.Proofs.YtjmnnkhdadoehaaGreat
set_option linter.unusedSimpArgs false
set_option linter.unusedVariables false
open Go
def U (x : Int) : Prop := 0 ≤ x ∧ x < 18446744073709551616
def A2.ok (a : A2) : Prop := U a.x ∧ U a.y
def wbit (n : Int) (j : Nat) : Bool := (n / 2 ^ j % 2 == 1)
def abit (a : A2) (i : Nat) : Bool := if i < 64 then wbit a.x (63 - i) else wbit a.y (127 - i)
theorem half_step (X : Int) (j : Nat) : X / 2 ^ j / 2 = X / 2 ^ (j + 1) := by
  rw [Int.ediv_ediv_of_nonneg (by exact Int.pow_nonneg (by omega)), Int.pow_succ]
def bitsRow (a : A2) (j m : Nat) (i : Nat) : Bool := if i < 64 * j ∨ (64 * j + m ≤ i ∧ i < 64 * j + 64) then abit a i else false
theorem bitsRow_step (a : A2) (j m i : Nat) (hm : m < 64) : bitsRow a j m i = if i = 64 * j + m then abit a i else bitsRow a j (m + 1) i := by
  unfold bitsRow
  by_cases h : i = 64 * j + m
  · rw [if_pos h, if_pos (by omega)]
  · rw [if_neg h]
    by_cases h2 : i < 64 * j ∨ (64 * j + m ≤ i ∧ i < 64 * j + 64)
    · rw [if_pos h2, if_pos (by omega)]
    · rw [if_neg h2, if_neg (by omega)]
theorem bitsRow_next (a : A2) (i : Nat) (h : i < 128) : bitsRow a 1 64 i = bitsRow a 0 0 i := by
  unfold bitsRow
  by_cases h2 : i < 64
  · rw [if_pos (by omega), if_pos (by omega)]
  · rw [if_neg (by omega), if_neg (by omega)]
theorem bitsRow_end (a : A2) (i : Nat) (h : i < 128) : bitsRow a 1 0 i = abit a i := by
  unfold bitsRow; rw [if_pos (by omega)]
theorem bitsRow_start (a : A2) (i : Nat) (h : i < 128) : bitsRow a 0 64 i = false := by
  unfold bitsRow; rw [if_neg (by omega)]
theorem abit_lo (a : A2) (m : Nat) (hm : m < 64) : abit a (64 * 0 + m) = wbit a.x (63 - m) := by unfold abit; rw [if_pos (by omega), show 64 * 0 + m = m by omega]
theorem abit_hi (a : A2) (m : Nat) (hm : m < 64) : abit a (64 * 1 + m) = wbit a.y (63 - m) := by unfold abit; rw [if_neg (by omega), show 127 - (64 * 1 + m) = 63 - m by omega]
theorem bits_round {X n : Int} {m : Nat} (h : n = X / 2 ^ (64 - (m + 1))) (hm : m < 64) : n / 2 = X / 2 ^ (64 - m) ∧ (n % 2 == 1) = wbit X (63 - m) := by
  have e : 64 - (m + 1) = 63 - m := by omega
  rw [e] at h
  refine ⟨?_, by rw [h]; rfl⟩
  rw [h, half_step, show 63 - m + 1 = 64 - m by omega]
theorem u_half {n : Int} (h : U n) : U (n / 2) ∧ IntKind.u64.wrap (n.tdiv 2) = n / 2 := by
  obtain ⟨h0, h1⟩ := h
  refine ⟨⟨by omega, by omega⟩, ?_⟩
  rw [Int.tdiv_eq_ediv_of_nonneg h0]
  show (n / 2) % 18446744073709551616 = n / 2
  omega
theorem bits_row {V : Type} (B : Bool → V) {c : Array V} {a : A2} {j m : Nat} {b : Bool} (hc : c.size = 128) (h : ∀ i, i < 128 → c[i]? = some (B (bitsRow a j (m + 1) i))) (hm : m < 64) (hj : j < 2) (hb : b = abit a (64 * j + m)) :
    (c.setIfInBounds (64 * j + m) (B b)).size = 128 ∧ ∀ i, i < 128 → (c.setIfInBounds (64 * j + m) (B b))[i]? = some (B (bitsRow a j m i)) := by
  refine ⟨by simp [hc], fun i hi => ?_⟩
  rw [Array.getElem?_setIfInBounds, bitsRow_step a j m i hm]
  by_cases e : 64 * j + m = i
  · rw [if_pos e, if_pos (by omega), if_pos (by omega), hb, e]
  · rw [if_neg e, if_neg (by omega)]; exact h i hi
def allTo (p : Nat → Bool) : Nat → Bool
  | 0 => true
  | k + 1 => allTo p k && p k
theorem allTo_succ {p : Nat → Bool} {k : Nat} (h : allTo p k = true) (h1 : p k = true) : allTo p (k + 1) = true := by simp [allTo, h, h1]
theorem allTo_iff (p : Nat → Bool) : ∀ n, allTo p n = true ↔ ∀ k, k < n → p k = true
  | 0 => by simp [allTo]
  | n + 1 => by
    simp only [allTo, Bool.and_eq_true, allTo_iff p n]
    constructor
    · rintro ⟨h1, h2⟩ k hk
      by_cases e : k = n
      · subst e; exact h2
      · exact h1 k (by omega)
    · exact fun h => ⟨fun k hk => h k (by omega), h n (by omega)⟩
def rMatchP (x : W2) (a : A2) (k : Nat) : Bool := !(abit x.m k && (abit x.v k != abit a k))
def rMatch (x : W2) (a : A2) : Bool := allTo (rMatchP x a) 128
def rMeetP (x y : W2) (k : Nat) : Bool := !(abit x.m k && abit y.m k && (abit x.v k != abit y.v k))
def rMeet (x y : W2) : Bool := allTo (rMeetP x y) 128
def W2.ok (x : W2) : Prop := x.v.ok ∧ x.m.ok
end Go.Proofs.YtjmnnkhdadoehaaGreat

/- What the functions over rows compute, in plain Lean. -/
namespace Go.Proofs.YtjmnnkhdadoehaaGreat
set_option linter.unusedSimpArgs false
set_option linter.unusedVariables false
open Go
def nth {α : Type} [Inhabited α] (xs : List α) (k : Nat) : α := xs.getD k default
theorem nth_at {α : Type} [Inhabited α] (xs : List α) {k : Nat} (h : k < xs.length) : nth xs k = xs[k] := by simp [nth, List.getD, h]
def bestTo (xs : List Ent) (a : A2) : Nat → Nat × Bool
  | 0 => (0, false)
  | k + 1 => let r := bestTo xs a k
    if wMatch (nth xs k).w a && (!r.2 || decide ((nth xs r.1).len < (nth xs k).len)) then (k, true) else r
def best (xs : List Ent) (a : A2) : Nat × Bool := bestTo xs a xs.length
def firstAt {α : Type} (p : α → Bool) : List α → Int
  | [] => -1
  | x :: xs => if p x then 0 else if firstAt p xs < 0 then -1 else firstAt p xs + 1
theorem firstAt_ge {α : Type} (p : α → Bool) : ∀ xs : List α, -1 ≤ firstAt p xs
  | [] => by simp [firstAt]
  | x :: xs => by
    have := firstAt_ge p xs
    simp only [firstAt]
    split
    · omega
    · split <;> omega
theorem firstAt_hit {α : Type} (p : α → Bool) : ∀ (xs : List α) (k : Nat) (hk : k < xs.length), (∀ (i : Nat) (x : α), i < k → xs[i]? = some x → p x = false) → p xs[k] = true → firstAt p xs = k
  | [], k, hk, _, _ => by simp at hk
  | x :: xs, 0, _, _, hp => by simp only [List.getElem_cons_zero] at hp; simp [firstAt, hp]
  | x :: xs, k + 1, hk, h, hp => by
    have h0 : p x = false := h 0 x (by omega) rfl
    have h1 := firstAt_hit p xs k (by simpa using hk) (fun i y hi hy => h (i + 1) y (by omega) (by simpa using hy)) (by simpa using hp)
    simp only [firstAt, h0, Bool.false_eq_true, if_false, h1]
    rw [if_neg (by omega)]
    omega
theorem firstAt_none {α : Type} (p : α → Bool) : ∀ xs : List α, (∀ (i : Nat) (x : α), xs[i]? = some x → p x = false) → firstAt p xs = -1
  | [], _ => rfl
  | x :: xs, h => by
    have h0 : p x = false := h 0 x rfl
    have h1 := firstAt_none p xs (fun i y hy => h (i + 1) y (by simpa using hy))
    simp [firstAt, h0, h1]
theorem none_step {α : Type} {p : α → Bool} {xs : List α} {k : Nat} (h : ∀ (i : Nat) (x : α), i < k → xs[i]? = some x → p x = false) (hk : k < xs.length) (h1 : p xs[k] = false) : ∀ (i : Nat) (x : α), i < k + 1 → xs[i]? = some x → p x = false := by
  intro i x hi hx
  by_cases e : i = k
  · subst e
    rw [List.getElem?_eq_getElem hk, Option.some.injEq] at hx
    rw [← hx]; exact h1
  · exact h i x (by omega) hx
def tell (xs : List Ent) (a : A2) : Int := if (best xs a).2 then (nth xs (best xs a).1).act else 0
def ordTo (xs : List Ent) : Nat → Bool
  | 0 => true
  | k + 1 => ordTo xs k && !(xs.take k).any (fun y => eAbove (nth xs k) y)
def ordered (xs : List Ent) : Bool := ordTo xs xs.length
theorem ordTo_false (xs : List Ent) {k : Nat} (h : (xs.take k).any (fun y => eAbove (nth xs k) y) = true) : ∀ n, k < n → ordTo xs n = false
  | 0, hn => by omega
  | n + 1, hn => by
    by_cases e : k = n
    · subst e; simp [ordTo, h]
    · simp [ordTo, ordTo_false xs h n (by omega)]
theorem firstAt_any {α : Type} (p : α → Bool) (xs : List α) : decide (0 ≤ firstAt p xs) = xs.any p := by
  rw [Bool.eq_iff_iff, decide_eq_true_iff, List.any_eq_true]
  induction xs with
  | nil => simp [firstAt]
  | cons x xs ih =>
    have hge := firstAt_ge p xs
    simp only [firstAt]
    by_cases h : p x = true
    · rw [if_pos h]
      exact ⟨fun _ => ⟨x, List.mem_cons_self, h⟩, fun _ => by omega⟩
    · rw [if_neg h]
      by_cases h2 : firstAt p xs < 0
      · rw [if_pos h2]
        refine ⟨fun h3 => by omega, fun ⟨y, hy, hp⟩ => ?_⟩
        rcases List.mem_cons.1 hy with rfl | hy
        · exact absurd hp h
        · have := ih.2 ⟨y, hy, hp⟩
          omega
      · rw [if_neg h2]
        refine ⟨fun _ => ?_, fun _ => by omega⟩
        obtain ⟨y, hy, hp⟩ := ih.1 (by omega)
        exact ⟨y, List.mem_cons_of_mem _ hy, hp⟩
end Go.Proofs.YtjmnnkhdadoehaaGreat

/- The two entries of awake. -/
namespace Go.Proofs.YtjmnnkhdadoehaaGreat
set_option linter.unusedSimpArgs false
set_option linter.unusedVariables false
open Go
end Go.Proofs.YtjmnnkhdadoehaaGreat

/- The order of two entries, in plain Lean. -/
namespace Go.Proofs.YtjmnnkhdadoehaaGreat
set_option linter.unusedSimpArgs false
set_option linter.unusedVariables false
open Go
def rCmp (x y : Ent) : Int := if x.len = y.len then (if aCompare x.w.v y.w.v = 0 then (if aCompare x.w.m y.w.m = 0 then cmpInt x.act y.act else aCompare x.w.m y.w.m) else aCompare x.w.v y.w.v) else if y.len < x.len then -1 else 1
def firstNZ : List Int → Int
  | [] => 0
  | n :: ns => if n = 0 then firstNZ ns else n
theorem firstNZ_hit : ∀ (ns : List Int) (k : Nat) (hk : k < ns.length), (∀ (i : Nat) (n : Int), i < k → ns[i]? = some n → n = 0) → ns[k] ≠ 0 → firstNZ ns = ns[k]
  | [], k, hk, _, _ => by simp at hk
  | n :: ns, 0, _, _, h => by simp only [List.getElem_cons_zero] at h ⊢; simp [firstNZ, h]
  | n :: ns, k + 1, hk, h, h1 => by
    have h0 : n = 0 := h 0 n (by omega) rfl
    simp only [firstNZ, h0, if_true, List.getElem_cons_succ]
    exact firstNZ_hit ns k (by simpa using hk) (fun i m hi hm => h (i + 1) m (by omega) (by simpa using hm)) (by simpa using h1)
theorem firstNZ_none : ∀ ns : List Int, (∀ (i : Nat) (n : Int), ns[i]? = some n → n = 0) → firstNZ ns = 0
  | [], _ => rfl
  | n :: ns, h => by
    have h0 : n = 0 := h 0 n rfl
    simp only [firstNZ, h0, if_true]
    exact firstNZ_none ns (fun i m hm => h (i + 1) m (by simpa using hm))
def eCmp (x y : Ent) : Int := firstNZ [cmpInt y.len x.len, aCompare x.w.v y.w.v, aCompare x.w.m y.w.m, cmpInt x.act y.act]
theorem eCmp_rCmp (x y : Ent) : eCmp x y = rCmp x y := by
  unfold eCmp rCmp
  simp only [firstNZ]
  by_cases h : x.len = y.len
  · have : cmpInt y.len x.len = 0 := by unfold cmpInt; rw [if_neg (by omega), if_neg (by omega)]
    rw [if_pos this, if_pos h]
    split
    · split
      · split
        · rename_i h; rw [h]
        · rfl
      · rfl
    · rfl
  · rw [if_neg h]
    unfold cmpInt
    by_cases h2 : y.len < x.len
    · simp [h2]
    · have h3 : x.len < y.len := by omega
      simp [h2, h3]
theorem cmpInt_neg (a b : Int) : cmpInt a b = - cmpInt b a := by
  unfold cmpInt
  by_cases h : a < b
  · rw [if_pos h, if_neg (by omega), if_pos h]
  · by_cases h2 : b < a
    · rw [if_neg h, if_pos h2, if_pos h2]; rfl
    · rw [if_neg h, if_neg h2, if_neg h2, if_neg h]; rfl
theorem aCompare_neg (a b : A2) : aCompare a b = - aCompare b a := by
  unfold aCompare
  by_cases h : a.x < b.x
  · rw [if_pos h, if_neg (by omega), if_pos h]
  · by_cases h2 : b.x < a.x
    · rw [if_neg h, if_pos h2, if_pos h2]; rfl
    · by_cases h3 : a.y < b.y
      · rw [if_neg h, if_neg h2, if_pos h3, if_neg h2, if_neg h, if_neg (by omega), if_pos h3]
      · by_cases h4 : b.y < a.y
        · rw [if_neg h, if_neg h2, if_neg h3, if_pos h4, if_neg h2, if_neg h, if_pos h4]; rfl
        · rw [if_neg h, if_neg h2, if_neg h3, if_neg h4, if_neg h2, if_neg h, if_neg h4, if_neg h3]; rfl
theorem cmpInt_zero {a b : Int} : cmpInt a b = 0 ↔ a = b := by
  unfold cmpInt
  by_cases h : a < b
  · rw [if_pos h]; exact ⟨fun h => by omega, fun h => by omega⟩
  · by_cases h2 : b < a
    · rw [if_neg h, if_pos h2]; exact ⟨fun h => by omega, fun h => by omega⟩
    · rw [if_neg h, if_neg h2]; exact ⟨fun _ => by omega, fun _ => rfl⟩
theorem aCompare_zero {a b : A2} : aCompare a b = 0 ↔ a = b := by
  unfold aCompare
  constructor
  · intro h
    by_cases h1 : a.x < b.x
    · rw [if_pos h1] at h; omega
    · by_cases h2 : b.x < a.x
      · rw [if_neg h1, if_pos h2] at h; omega
      · by_cases h3 : a.y < b.y
        · rw [if_neg h1, if_neg h2, if_pos h3] at h; omega
        · by_cases h4 : b.y < a.y
          · rw [if_neg h1, if_neg h2, if_neg h3, if_pos h4] at h; omega
          · cases a; cases b; simp only at h1 h2 h3 h4; congr 1 <;> omega
  · rintro rfl
    simp
theorem eCmp_neg (x y : Ent) : eCmp x y = - eCmp y x := by
  unfold eCmp
  simp only [firstNZ]
  rw [cmpInt_neg y.len x.len, aCompare_neg x.w.v y.w.v, aCompare_neg x.w.m y.w.m, cmpInt_neg x.act y.act]
  generalize cmpInt x.len y.len = a
  generalize aCompare y.w.v x.w.v = b
  generalize aCompare y.w.m x.w.m = c
  generalize cmpInt y.act x.act = d
  (repeat' split) <;> omega
theorem eCmp_zero {x y : Ent} : eCmp x y = 0 ↔ x = y := by
  unfold eCmp
  simp only [firstNZ]
  constructor
  · intro h
    have h1 : cmpInt y.len x.len = 0 := by
      by_cases c : cmpInt y.len x.len = 0
      · exact c
      · rw [if_neg c] at h; exact h
    rw [if_pos h1] at h
    have h2 : aCompare x.w.v y.w.v = 0 := by
      by_cases c : aCompare x.w.v y.w.v = 0
      · exact c
      · rw [if_neg c] at h; exact h
    rw [if_pos h2] at h
    have h3 : aCompare x.w.m y.w.m = 0 := by
      by_cases c : aCompare x.w.m y.w.m = 0
      · exact c
      · rw [if_neg c] at h; exact h
    rw [if_pos h3] at h
    have h4 : cmpInt x.act y.act = 0 := by
      by_cases c : cmpInt x.act y.act = 0
      · exact c
      · rw [if_neg c] at h; exact h
    obtain ⟨⟨a, b⟩, c, d⟩ := x
    obtain ⟨⟨a', b'⟩, c', d'⟩ := y
    simp only at h1 h2 h3 h4
    rw [cmpInt_zero] at h1 h4
    rw [aCompare_zero] at h2 h3
    subst h1 h2 h3 h4; rfl
  · rintro rfl
    rw [cmpInt_zero.2 rfl, aCompare_zero.2 rfl, aCompare_zero.2 rfl, cmpInt_zero.2 rfl]; rfl
def lexKey (x : Ent) : List Int := [-x.len, x.w.v.x, x.w.v.y, x.w.m.x, x.w.m.y, x.act]
def lexLe : List Int → List Int → Prop
  | [], _ => True
  | _ :: _, [] => False
  | a :: as, b :: bs => a < b ∨ a = b ∧ lexLe as bs
theorem lexLe_trans : ∀ {a b c : List Int}, lexLe a b → lexLe b c → lexLe a c
  | [], _, _, _, _ => trivial
  | _ :: _, [], _, h, _ => h.elim
  | _ :: _, _ :: _, [], _, h => h.elim
  | a :: as, b :: bs, c :: cs, h1, h2 => by
    rcases h1 with h1 | ⟨h1, h1'⟩ <;> rcases h2 with h2 | ⟨h2, h2'⟩
    · exact .inl (by omega)
    · exact .inl (by omega)
    · exact .inl (by omega)
    · exact .inr ⟨by omega, lexLe_trans h1' h2'⟩
theorem eCmp_lex (x y : Ent) : eCmp x y ≤ 0 ↔ lexLe (lexKey x) (lexKey y) := by
  unfold eCmp lexKey
  simp only [firstNZ, lexLe, and_true]
  unfold cmpInt aCompare
  by_cases h1 : y.len < x.len
  · simp [h1] <;> omega
  by_cases h2 : x.len < y.len
  · simp [h1, h2] <;> omega
  by_cases h3 : x.w.v.x < y.w.v.x
  · simp [h1, h2, h3] <;> omega
  by_cases h4 : y.w.v.x < x.w.v.x
  · simp [h1, h2, h3, h4] <;> omega
  by_cases h5 : x.w.v.y < y.w.v.y
  · simp [h1, h2, h3, h4, h5] <;> omega
  by_cases h6 : y.w.v.y < x.w.v.y
  · simp [h1, h2, h3, h4, h5, h6] <;> omega
  by_cases h7 : x.w.m.x < y.w.m.x
  · simp [h1, h2, h3, h4, h5, h6, h7] <;> omega
  by_cases h8 : y.w.m.x < x.w.m.x
  · simp [h1, h2, h3, h4, h5, h6, h7, h8] <;> omega
  by_cases h9 : x.w.m.y < y.w.m.y
  · simp [h1, h2, h3, h4, h5, h6, h7, h8, h9] <;> omega
  by_cases h10 : y.w.m.y < x.w.m.y
  · simp [h1, h2, h3, h4, h5, h6, h7, h8, h9, h10] <;> omega
  by_cases h11 : x.act < y.act
  · simp [h1, h2, h3, h4, h5, h6, h7, h8, h9, h10, h11] <;> omega
  by_cases h12 : y.act < x.act
  · simp [h1, h2, h3, h4, h5, h6, h7, h8, h9, h10, h11, h12] <;> omega
  simp [h1, h2, h3, h4, h5, h6, h7, h8, h9, h10, h11, h12] <;> omega
theorem eCmp_trans {x y z : Ent} (h1 : eCmp x y ≤ 0) (h2 : eCmp y z ≤ 0) : eCmp x z ≤ 0 := (eCmp_lex x z).2 (lexLe_trans ((eCmp_lex x y).1 h1) ((eCmp_lex y z).1 h2))
end Go.Proofs.YtjmnnkhdadoehaaGreat

/- Two words out of 128 bits, in plain Lean. -/
namespace Go.Proofs.YtjmnnkhdadoehaaGreat
set_option linter.unusedSimpArgs false
set_option linter.unusedVariables false
open Go
def wTo (f : Nat → Bool) (o : Nat) : Nat → Int
  | 0 => 0
  | j + 1 => 2 * wTo f o j + (if f (o + j) then 1 else 0)
def words (f : Nat → Bool) : A2 := ⟨wTo f 0 64, wTo f 64 64⟩
end Go.Proofs.YtjmnnkhdadoehaaGreat

/- The best one, by both definitions, and what is ordered, in plain Lean. -/
namespace Go.Proofs.YtjmnnkhdadoehaaGreat
set_option linter.unusedSimpArgs false
set_option linter.unusedVariables false
open Go
structure RB (xs : List Ent) (a : A2) (k : Nat) (b : Int) : Prop where
  ge : -1 ≤ b
  lt : b < xs.length
  none : b < 0 → ∀ (i : Nat) (x : Ent), k ≤ i → xs[i]? = some x → rMatch x.w a = false
  hit : 0 ≤ b → ∃ y, xs[b.toNat]? = some y ∧ rMatch y.w a = true ∧ (k : Int) ≤ b ∧ (∀ (i : Nat) (x : Ent), k ≤ i → xs[i]? = some x → rMatch x.w a = true → x.len ≤ y.len) ∧ ∀ (i : Nat) (x : Ent), k ≤ i → (i : Int) < b → xs[i]? = some x → rMatch x.w a = true → x.len < y.len
structure BT (xs : List Ent) (a : A2) (k : Nat) (r : Nat × Bool) : Prop where
  none : r.2 = false → r.1 = 0 ∧ ∀ (i : Nat) (x : Ent), i < k → xs[i]? = some x → wMatch x.w a = false
  hit : r.2 = true → ∃ y, xs[r.1]? = some y ∧ wMatch y.w a = true ∧ r.1 < k ∧ (∀ (i : Nat) (x : Ent), i < k → xs[i]? = some x → wMatch x.w a = true → x.len ≤ y.len) ∧ ∀ (i : Nat) (x : Ent), i < r.1 → xs[i]? = some x → wMatch x.w a = true → x.len < y.len
end Go.Proofs.YtjmnnkhdadoehaaGreat
