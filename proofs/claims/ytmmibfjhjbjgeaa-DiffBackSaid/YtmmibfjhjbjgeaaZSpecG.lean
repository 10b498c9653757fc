/- The order of two entries, in plain Lean. -/
import Derived.Test.YtmmibfjhjbjgeaaZSpec
namespace Go.Proofs.Ytmmibfjhjbjgeaa
set_option linter.unusedSimpArgs false
set_option linter.unusedVariables false
open Go
def rCmp (x y : Ent) : Int := if x.len = y.len then (if aCompare x.w.v y.w.v = 0 then (if aCompare x.w.m y.w.m = 0 then cmpInt x.act y.act else aCompare x.w.m y.w.m) else aCompare x.w.v y.w.v) else if y.len < x.len then -1 else 1
def firstNZ : List Int → Int
  | [] => 0
  | n :: ns => if n = 0 then firstNZ ns else n
theorem firstNZ_hit : ∀ (ns : List Int) (k : Nat) (hk : k < ns.length), (∀ (i : Nat) (n : Int), i < k → ns[i]? = some n → n = 0) → ns[k] ≠ 0 → firstNZ ns = ns[k]
  | [], k, hk, _, _ => by simp at hk
  | n :: ns, 0, _, _, h => by simp only [List.getElem_cons_zero] at h ⊢; simp [firstNZ, h]
  | n :: ns, k + 1, hk, h, h1 => by
    have h0 : n = 0 := h 0 n (by omega) rfl
    simp only [firstNZ, h0, if_true, List.getElem_cons_succ]
    exact firstNZ_hit ns k (by simpa using hk) (fun i m hi hm => h (i + 1) m (by omega) (by simpa using hm)) (by simpa using h1)
theorem firstNZ_none : ∀ ns : List Int, (∀ (i : Nat) (n : Int), ns[i]? = some n → n = 0) → firstNZ ns = 0
  | [], _ => rfl
  | n :: ns, h => by
    have h0 : n = 0 := h 0 n rfl
    simp only [firstNZ, h0, if_true]
    exact firstNZ_none ns (fun i m hm => h (i + 1) m (by simpa using hm))
def eCmp (x y : Ent) : Int := firstNZ [cmpInt y.len x.len, aCompare x.w.v y.w.v, aCompare x.w.m y.w.m, cmpInt x.act y.act]
theorem eCmp_rCmp (x y : Ent) : eCmp x y = rCmp x y := by
  unfold eCmp rCmp
  simp only [firstNZ]
  by_cases h : x.len = y.len
  · have : cmpInt y.len x.len = 0 := by unfold cmpInt; rw [if_neg (by omega), if_neg (by omega)]
    rw [if_pos this, if_pos h]
    split
    · split
      · split
        · rename_i h; rw [h]
        · rfl
      · rfl
    · rfl
  · rw [if_neg h]
    unfold cmpInt
    by_cases h2 : y.len < x.len
    · simp [h2]
    · have h3 : x.len < y.len := by omega
      simp [h2, h3]
theorem cmpInt_neg (a b : Int) : cmpInt a b = - cmpInt b a := by
  unfold cmpInt
  by_cases h : a < b
  · rw [if_pos h, if_neg (by omega), if_pos h]
  · by_cases h2 : b < a
    · rw [if_neg h, if_pos h2, if_pos h2]; rfl
    · rw [if_neg h, if_neg h2, if_neg h2, if_neg h]; rfl
theorem aCompare_neg (a b : A2) : aCompare a b = - aCompare b a := by
  unfold aCompare
  by_cases h : a.x < b.x
  · rw [if_pos h, if_neg (by omega), if_pos h]
  · by_cases h2 : b.x < a.x
    · rw [if_neg h, if_pos h2, if_pos h2]; rfl
    · by_cases h3 : a.y < b.y
      · rw [if_neg h, if_neg h2, if_pos h3, if_neg h2, if_neg h, if_neg (by omega), if_pos h3]
      · by_cases h4 : b.y < a.y
        · rw [if_neg h, if_neg h2, if_neg h3, if_pos h4, if_neg h2, if_neg h, if_pos h4]; rfl
        · rw [if_neg h, if_neg h2, if_neg h3, if_neg h4, if_neg h2, if_neg h, if_neg h4, if_neg h3]; rfl
theorem cmpInt_zero {a b : Int} : cmpInt a b = 0 ↔ a = b := by
  unfold cmpInt
  by_cases h : a < b
  · rw [if_pos h]; exact ⟨fun h => by omega, fun h => by omega⟩
  · by_cases h2 : b < a
    · rw [if_neg h, if_pos h2]; exact ⟨fun h => by omega, fun h => by omega⟩
    · rw [if_neg h, if_neg h2]; exact ⟨fun _ => by omega, fun _ => rfl⟩
theorem aCompare_zero {a b : A2} : aCompare a b = 0 ↔ a = b := by
  unfold aCompare
  constructor
  · intro h
    by_cases h1 : a.x < b.x
    · rw [if_pos h1] at h; omega
    · by_cases h2 : b.x < a.x
      · rw [if_neg h1, if_pos h2] at h; omega
      · by_cases h3 : a.y < b.y
        · rw [if_neg h1, if_neg h2, if_pos h3] at h; omega
        · by_cases h4 : b.y < a.y
          · rw [if_neg h1, if_neg h2, if_neg h3, if_pos h4] at h; omega
          · cases a; cases b; simp only at h1 h2 h3 h4; congr 1 <;> omega
  · rintro rfl
    simp
theorem eCmp_neg (x y : Ent) : eCmp x y = - eCmp y x := by
  unfold eCmp
  simp only [firstNZ]
  rw [cmpInt_neg y.len x.len, aCompare_neg x.w.v y.w.v, aCompare_neg x.w.m y.w.m, cmpInt_neg x.act y.act]
  generalize cmpInt x.len y.len = a
  generalize aCompare y.w.v x.w.v = b
  generalize aCompare y.w.m x.w.m = c
  generalize cmpInt y.act x.act = d
  (repeat' split) <;> omega
theorem eCmp_zero {x y : Ent} : eCmp x y = 0 ↔ x = y := by
  unfold eCmp
  simp only [firstNZ]
  constructor
  · intro h
    have h1 : cmpInt y.len x.len = 0 := by
      by_cases c : cmpInt y.len x.len = 0
      · exact c
      · rw [if_neg c] at h; exact h
    rw [if_pos h1] at h
    have h2 : aCompare x.w.v y.w.v = 0 := by
      by_cases c : aCompare x.w.v y.w.v = 0
      · exact c
      · rw [if_neg c] at h; exact h
    rw [if_pos h2] at h
    have h3 : aCompare x.w.m y.w.m = 0 := by
      by_cases c : aCompare x.w.m y.w.m = 0
      · exact c
      · rw [if_neg c] at h; exact h
    rw [if_pos h3] at h
    have h4 : cmpInt x.act y.act = 0 := by
      by_cases c : cmpInt x.act y.act = 0
      · exact c
      · rw [if_neg c] at h; exact h
    obtain ⟨⟨a, b⟩, c, d⟩ := x
    obtain ⟨⟨a', b'⟩, c', d'⟩ := y
    simp only at h1 h2 h3 h4
    rw [cmpInt_zero] at h1 h4
    rw [aCompare_zero] at h2 h3
    subst h1 h2 h3 h4; rfl
  · rintro rfl
    rw [cmpInt_zero.2 rfl, aCompare_zero.2 rfl, aCompare_zero.2 rfl, cmpInt_zero.2 rfl]; rfl
/-- The order as one of lists of numbers. -/
def lexKey (x : Ent) : List Int := [-x.len, x.w.v.x, x.w.v.y, x.w.m.x, x.w.m.y, x.act]
def lexLe : List Int → List Int → Prop
  | [], _ => True
  | _ :: _, [] => False
  | a :: as, b :: bs => a < b ∨ a = b ∧ lexLe as bs
theorem lexLe_trans : ∀ {a b c : List Int}, lexLe a b → lexLe b c → lexLe a c
  | [], _, _, _, _ => trivial
  | _ :: _, [], _, h, _ => h.elim
  | _ :: _, _ :: _, [], _, h => h.elim
  | a :: as, b :: bs, c :: cs, h1, h2 => by
    rcases h1 with h1 | ⟨h1, h1'⟩ <;> rcases h2 with h2 | ⟨h2, h2'⟩
    · exact .inl (by omega)
    · exact .inl (by omega)
    · exact .inl (by omega)
    · exact .inr ⟨by omega, lexLe_trans h1' h2'⟩
theorem eCmp_lex (x y : Ent) : eCmp x y ≤ 0 ↔ lexLe (lexKey x) (lexKey y) := by
  unfold eCmp lexKey
  simp only [firstNZ, lexLe, and_true]
  unfold cmpInt aCompare
  by_cases h1 : y.len < x.len
  · simp [h1] <;> omega
  by_cases h2 : x.len < y.len
  · simp [h1, h2] <;> omega
  by_cases h3 : x.w.v.x < y.w.v.x
  · simp [h1, h2, h3] <;> omega
  by_cases h4 : y.w.v.x < x.w.v.x
  · simp [h1, h2, h3, h4] <;> omega
  by_cases h5 : x.w.v.y < y.w.v.y
  · simp [h1, h2, h3, h4, h5] <;> omega
  by_cases h6 : y.w.v.y < x.w.v.y
  · simp [h1, h2, h3, h4, h5, h6] <;> omega
  by_cases h7 : x.w.m.x < y.w.m.x
  · simp [h1, h2, h3, h4, h5, h6, h7] <;> omega
  by_cases h8 : y.w.m.x < x.w.m.x
  · simp [h1, h2, h3, h4, h5, h6, h7, h8] <;> omega
  by_cases h9 : x.w.m.y < y.w.m.y
  · simp [h1, h2, h3, h4, h5, h6, h7, h8, h9] <;> omega
  by_cases h10 : y.w.m.y < x.w.m.y
  · simp [h1, h2, h3, h4, h5, h6, h7, h8, h9, h10] <;> omega
  by_cases h11 : x.act < y.act
  · simp [h1, h2, h3, h4, h5, h6, h7, h8, h9, h10, h11] <;> omega
  by_cases h12 : y.act < x.act
  · simp [h1, h2, h3, h4, h5, h6, h7, h8, h9, h10, h11, h12] <;> omega
  simp [h1, h2, h3, h4, h5, h6, h7, h8, h9, h10, h11, h12] <;> omega
theorem eCmp_trans {x y z : Ent} (h1 : eCmp x y ≤ 0) (h2 : eCmp y z ≤ 0) : eCmp x z ≤ 0 := (eCmp_lex x z).2 (lexLe_trans ((eCmp_lex x y).1 h1) ((eCmp_lex y z).1 h2))
end Go.Proofs.Ytmmibfjhjbjgeaa
