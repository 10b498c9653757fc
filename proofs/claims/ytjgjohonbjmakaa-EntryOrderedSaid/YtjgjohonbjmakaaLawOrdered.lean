/- EntryOrdered: the walk. -/
import Derived.Test.YtjgjohonbjmakaaWalkE
import Derived.Test.YtjgjohonbjmakaaWalkF
import Derived.Test.YtjgjohonbjmakaaWalkG
import Derived.Test.YtjgjohonbjmakaaWalkR5
import Derived.Test.YtjgjohonbjmakaaSpecF
import Derived.Test.YtjgjohonbjmakaaOpen
import Derived.Test.YtjgjohonbjmakaaPureA
namespace Go.Proofs.Ytjgjohonbjmakaa
set_option linter.unusedSimpArgs false
set_option linter.unusedVariables false
open Go.RowKit
attribute [local irreducible] rMatch rMeet
theorem firstAt_spec {α : Type} (p : α → Bool) : ∀ xs : List α, (firstAt p xs < 0 → ∀ (i : Nat) (x : α), xs[i]? = some x → p x = false) ∧ (0 ≤ firstAt p xs → ∃ x, xs[(firstAt p xs).toNat]? = some x ∧ p x = true ∧ ∀ (i : Nat) (y : α), i < (firstAt p xs).toNat → xs[i]? = some y → p y = false)
  | [] => ⟨fun _ i x hx => by simp at hx, fun h => by simp [firstAt] at h⟩
  | x :: xs => by
    obtain ⟨h1, h2⟩ := firstAt_spec p xs
    have hge := firstAt_ge p xs
    cases hp : p x with
    | true =>
      have e : firstAt p (x :: xs) = 0 := by simp [firstAt, hp]
      rw [e]
      exact ⟨fun h => by omega, fun _ => ⟨x, rfl, hp, fun i y hi => by simp at hi⟩⟩
    | false =>
      by_cases h0 : firstAt p xs < 0
      · have e : firstAt p (x :: xs) = -1 := by simp [firstAt, hp, h0]
        rw [e]
        refine ⟨fun _ i y hy => ?_, fun h => by omega⟩
        cases i with
        | zero => simp only [List.getElem?_cons_zero, Option.some.injEq] at hy; rw [← hy]; exact hp
        | succ i => exact h1 h0 i y (by simpa using hy)
      · have e : firstAt p (x :: xs) = firstAt p xs + 1 := by simp [firstAt, hp, h0]
        rw [e]
        refine ⟨fun h => by omega, fun _ => ?_⟩
        obtain ⟨y, hy, h3, h4⟩ := h2 (by omega)
        have et : (firstAt p xs + 1).toNat = (firstAt p xs).toNat + 1 := by omega
        rw [et]
        refine ⟨y, by simpa using hy, h3, fun i z hi hz => ?_⟩
        cases i with
        | zero => simp only [List.getElem?_cons_zero, Option.some.injEq] at hz; rw [← hz]; exact hp
        | succ i => exact h4 i z (by omega) (by simpa using hz)
theorem both_meet {x y : W2} {a : A2} (hx : rMatch x a = true) (hy : rMatch y a = true) : rMeet x y = true := by
  unfold rMatch at hx hy
  unfold rMeet
  rw [allTo_iff] at hx hy ⊢
  intro k hk
  have h1 := hx k hk
  have h2 := hy k hk
  unfold rMatchP at h1 h2
  unfold rMeetP
  revert h1 h2
  cases abit x.m k <;> cases abit x.v k <;> cases abit y.m k <;> cases abit y.v k <;> cases abit a k <;> decide
theorem first_best (xs : List Ent) (a : A2) (hok : ∀ x ∈ xs, x.w.ok) (ha : a.ok) (ho : ordered xs = true) :
    (((best xs a).1 : Nat) : Int) = (if firstAt (fun x => wMatch x.w a) xs < 0 then 0 else firstAt (fun x => wMatch x.w a) xs) ∧ (best xs a).2 = decide (0 ≤ firstAt (fun x => wMatch x.w a) xs) := by
  have hb := bestTo_ok xs a xs.length (Nat.le_refl _)
  change BT xs a xs.length (best xs a) at hb
  obtain ⟨h1, h2⟩ := firstAt_spec (fun x => wMatch x.w a) xs
  generalize firstAt (fun x => wMatch x.w a) xs = F at h1 h2
  obtain ⟨⟨j, f⟩, hbb⟩ : ∃ r, r = best xs a := ⟨_, rfl⟩
  rw [← hbb] at hb ⊢
  by_cases hF : F < 0
  · have hno := h1 hF
    have hf : f = false := by
      cases f with
      | false => rfl
      | true => obtain ⟨y, hy, h3, _⟩ := hb.hit rfl; rw [hno j y hy] at h3; cases h3
    subst hf
    rw [if_pos hF, (hb.none rfl).1]
    exact ⟨rfl, by simp; omega⟩
  · obtain ⟨x, hx, h3, h4⟩ := h2 (by omega)
    have hxl : F.toNat < xs.length := (List.getElem?_eq_some_iff.1 hx).1
    rw [if_neg hF]
    cases f with
    | false => rw [(hb.none rfl).2 _ x hxl hx] at h3; cases h3
    | true =>
      obtain ⟨y, hy, g1, g2, g3, g4⟩ := hb.hit rfl
      refine ⟨?_, by simp; omega⟩
      show (j : Int) = F
      have c1 : ¬ j < F.toNat := fun h => by rw [h4 j y h hy] at g1; cases g1
      by_cases c2 : F.toNat < j
      · have hl := g4 _ x c2 hx h3
        have hm := (ordTo_iff xs xs.length (Nat.le_refl _)).1 ho j g2 _ c2
        have ex : nth xs F.toNat = x := by rw [nth_at xs hxl]; exact (List.getElem?_eq_some_iff.1 hx).2
        have ey : nth xs j = y := by rw [nth_at xs g2]; exact (List.getElem?_eq_some_iff.1 hy).2
        have ox := hok x (List.mem_of_getElem? hx)
        have oy := hok y (List.mem_of_getElem? hy)
        rw [ex, ey] at hm
        unfold eAbove at hm
        rw [meet_ref oy ox, both_meet ((match_ref oy ha).symm.trans g1) ((match_ref ox ha).symm.trans h3)] at hm
        simp [hl] at hm
      · omega
attribute [local go_sem high] eql_25 neq_25 eql_24 neq_24 eql_27 neq_27 eql_32 neq_32 eql_29 neq_29 eql_34 neq_34 eql_41 neq_41 eql_44 neq_44
attribute [local go_sem ↓ high] yielded_undef
attribute [local go_sem] eqg_25 eqg_24 eqg_27 eqg_32 eqg_29 eqg_34 eqg_41 eqg_44 cell_grew frozen_grew size_grew grew_grew drewN_grew lt_addk size_setW Instr.field asAgg lt_gi_k lt_gi_kh lt_gi_k_k lt_gi_k_kh lt_gi_k_k_k lt_gi_k_k_kh lt_gi_i_k lt_gi_i_kh lt_gi_i_k_k lt_gi_i_k_kh lt_gi_i_k_k_k lt_gi_i_k_k_kh lt_gi_i_i_k lt_gi_i_i_kh lt_gi_i_i_k_k lt_gi_i_i_k_kh lt_gi_i_i_k_k_k lt_gi_i_i_k_k_kh lt_gi_i_i_i_k lt_gi_i_i_i_kh lt_gi_i_i_i_k_k lt_gi_i_i_i_k_kh lt_gi_i_i_i_k_k_k lt_gi_i_i_i_k_k_kh lt_gi_i_i_i_i_k lt_gi_i_i_i_i_kh lt_gi_i_i_i_i_k_k lt_gi_i_i_i_i_k_kh lt_gi_i_i_i_i_k_k_k lt_gi_i_i_i_i_k_k_kh lt_gi_i_i_i_i_i_k lt_gi_i_i_i_i_i_kh lt_gi_i_i_i_i_i_k_k lt_gi_i_i_i_i_i_k_kh lt_gi_i_i_i_i_i_k_k_k lt_gi_i_i_i_i_i_k_k_kh lt_gi_i_i_i_i_i_i_k lt_gi_i_i_i_i_i_i_kh lt_gi_i_i_i_i_i_i_k_k lt_gi_i_i_i_i_i_i_k_kh lt_gi_i_i_i_i_i_i_k_k_k lt_gi_i_i_i_i_i_i_k_k_kh lt_gi_i_i_i_i_i_i_i_k lt_gi_i_i_i_i_i_i_i_kh lt_gi_i_i_i_i_i_i_i_k_k lt_gi_i_i_i_i_i_i_i_k_kh lt_gi_i_i_i_i_i_i_i_k_k_k lt_gi_i_i_i_i_i_i_i_k_k_kh lt_gi_k_i lt_gi_k_ih lt_gi_k_i_k lt_gi_k_i_kh lt_gi_k_k_i lt_gi_k_k_ih lt_gi_k_k_i_k lt_gi_k_k_i_kh lt_gi_k_i_i lt_gi_k_i_ih lt_gi_k_i_i_k lt_gi_k_i_i_kh lt_gi_k_k_i_i lt_gi_k_k_i_ih lt_gi_k_k_i_i_k lt_gi_k_k_i_i_kh lt_gi_k_i_i_i lt_gi_k_i_i_ih lt_gi_k_i_i_i_k lt_gi_k_i_i_i_kh lt_gi_k_k_i_i_i lt_gi_k_k_i_i_ih lt_gi_k_k_i_i_i_k lt_gi_k_k_i_i_i_kh lt_gi_i_k_i lt_gi_i_k_ih lt_gi_i_k_i_k lt_gi_i_k_i_kh lt_gi_i_k_k_i lt_gi_i_k_k_ih lt_gi_i_k_k_i_k lt_gi_i_k_k_i_kh lt_gi_i_k_i_i lt_gi_i_k_i_ih lt_gi_i_k_i_i_k lt_gi_i_k_i_i_kh lt_gi_i_k_k_i_i lt_gi_i_k_k_i_ih lt_gi_i_k_k_i_i_k lt_gi_i_k_k_i_i_kh lt_gi_i_k_i_i_i lt_gi_i_k_i_i_ih lt_gi_i_k_i_i_i_k lt_gi_i_k_i_i_i_kh lt_gi_i_k_k_i_i_i lt_gi_i_k_k_i_i_ih lt_gi_i_k_k_i_i_i_k lt_gi_i_k_k_i_i_i_kh lt_gi_i_i_k_i lt_gi_i_i_k_ih lt_gi_i_i_k_i_k lt_gi_i_i_k_i_kh lt_gi_i_i_k_k_i lt_gi_i_i_k_k_ih lt_gi_i_i_k_k_i_k lt_gi_i_i_k_k_i_kh lt_gi_i_i_k_i_i lt_gi_i_i_k_i_ih lt_gi_i_i_k_i_i_k lt_gi_i_i_k_i_i_kh lt_gi_i_i_k_k_i_i lt_gi_i_i_k_k_i_ih lt_gi_i_i_k_k_i_i_k lt_gi_i_i_k_k_i_i_kh lt_gi_i_i_k_i_i_i lt_gi_i_i_k_i_i_ih lt_gi_i_i_k_i_i_i_k lt_gi_i_i_k_i_i_i_kh lt_gi_i_i_k_k_i_i_i lt_gi_i_i_k_k_i_i_ih lt_gi_i_i_k_k_i_i_i_k lt_gi_i_i_k_k_i_i_i_kh lt_gi_i_i_i_k_i lt_gi_i_i_i_k_ih lt_gi_i_i_i_k_i_k lt_gi_i_i_i_k_i_kh lt_gi_i_i_i_k_k_i lt_gi_i_i_i_k_k_ih lt_gi_i_i_i_k_k_i_k lt_gi_i_i_i_k_k_i_kh lt_gi_i_i_i_k_i_i lt_gi_i_i_i_k_i_ih lt_gi_i_i_i_k_i_i_k lt_gi_i_i_i_k_i_i_kh lt_gi_i_i_i_k_k_i_i lt_gi_i_i_i_k_k_i_ih lt_gi_i_i_i_k_k_i_i_k lt_gi_i_i_i_k_k_i_i_kh lt_gi_i_i_i_k_i_i_i lt_gi_i_i_i_k_i_i_ih lt_gi_i_i_i_k_i_i_i_k lt_gi_i_i_i_k_i_i_i_kh lt_gi_i_i_i_k_k_i_i_i lt_gi_i_i_i_k_k_i_i_ih lt_gi_i_i_i_k_k_i_i_i_k lt_gi_i_i_i_k_k_i_i_i_kh lt_gi_i_i_i_i_k_i lt_gi_i_i_i_i_k_ih lt_gi_i_i_i_i_k_i_k lt_gi_i_i_i_i_k_i_kh lt_gi_i_i_i_i_k_k_i lt_gi_i_i_i_i_k_k_ih lt_gi_i_i_i_i_k_k_i_k lt_gi_i_i_i_i_k_k_i_kh lt_gi_i_i_i_i_k_i_i lt_gi_i_i_i_i_k_i_ih lt_gi_i_i_i_i_k_i_i_k lt_gi_i_i_i_i_k_i_i_kh lt_gi_i_i_i_i_k_k_i_i lt_gi_i_i_i_i_k_k_i_ih lt_gi_i_i_i_i_k_k_i_i_k lt_gi_i_i_i_i_k_k_i_i_kh lt_gi_i_i_i_i_k_i_i_i lt_gi_i_i_i_i_k_i_i_ih lt_gi_i_i_i_i_k_i_i_i_k lt_gi_i_i_i_i_k_i_i_i_kh lt_gi_i_i_i_i_k_k_i_i_i lt_gi_i_i_i_i_k_k_i_i_ih lt_gi_i_i_i_i_k_k_i_i_i_k lt_gi_i_i_i_i_k_k_i_i_i_kh
set_option maxRecDepth 100000 in
set_option maxHeartbeats 8000000 in
theorem w_EntryOrdered (A : Option Addr) (c : Nat) (xs : List Ent) (a : A2) (w : World) (hcap : xs.length ≤ c) (hnil : A = none → c = 0) (hr : Reads encE 6 w A xs) (hoks : ∀ x ∈ xs, OkE x) (hoa : OkA a) :
    Calls Try.prog 6 #[.slice A xs.length c, .agg #[.int .u64 a.x, .int .u64 a.y]] w fun e w' => e = .returned (.bool true) ∧ Below w.heap.size w w' := by
  have hlen := hr.1
  by_cases hmost : (40 : Int) < xs.length
  · go_enter Try.func6, Try.ntmps6
    go_wp2_with (first | (go_at_call 13; refine (c_awake5 _).mono ?_; rintro e w' ⟨rfl, hb⟩; obtain ⟨p, rfl⟩ := below_grew hb; clear hb))
    refine bodyPost_ret (v := .bool true) ?_ rfl ⟨rfl, ?_⟩
    · simp [results, Try.f6, go_sem]
    · repeat' (first | with_reducible exact Below.refl _ _ | with_reducible assumption | with_reducible apply below_grews | with_reducible apply Below.drew | with_reducible apply Below.alloc | with_reducible apply Below.setCell | (simp [size_grew, -Nat.not_le, -Nat.not_lt] <;> omega))
  have hw : ∀ x ∈ xs, x.w.ok := fun x hx => (hoks x hx).1
  have HOf := fun W h => c_law5Of A c xs W h (by omega)
  have HFirst := fun W h => c_First A c xs a.x a.y W h
  have HBest := fun W h => c_Best A c xs a.x a.y W h
  have HOrd := fun W h => c_Ordered A c xs hcap W h
  have GOrd := fun B d W h => c_rOrdered B d xs hw W h
  rw [rOrdered_ordered xs hw] at GOrd
  have hfb := first_best xs a hw hoa
  change ordered xs = true → (((best xs ⟨a.x, a.y⟩).1 : Nat) : Int) = (if firstAt (fun x => wMatch x.w ⟨a.x, a.y⟩) xs < 0 then 0 else firstAt (fun x => wMatch x.w ⟨a.x, a.y⟩) xs) ∧ (best xs ⟨a.x, a.y⟩).2 = decide (0 ≤ firstAt (fun x => wMatch x.w ⟨a.x, a.y⟩) xs) at hfb
  generalize firstAt (fun x => wMatch x.w ⟨a.x, a.y⟩) xs = F at HFirst hfb
  generalize best xs ⟨a.x, a.y⟩ = Bb at HBest hfb
  obtain ⟨bj, bf⟩ := Bb
  generalize ordered xs = O at HOrd GOrd hfb
  simp only at HBest hfb
  generalize (if F < 0 then (0 : Int) else F) = I at HFirst hfb
  generalize decide (0 ≤ F) = D at HFirst hfb
  cases O
  · have KOf := Lib.hid HOf
    have KFirst := Lib.hid HFirst
    have KBest := Lib.hid HBest
    have KOrd := Lib.hid HOrd
    have LOrd := Lib.hid GOrd
    clear HOf HFirst HBest HOrd GOrd hw hfb
    go_enter Try.func6, Try.ntmps6
    go_wp2_with (first | (go_at_call 13; refine (c_awake5 _).mono ?_; rintro e w' ⟨rfl, hb⟩; obtain ⟨p, rfl⟩ := below_grew hb; clear hb))
    refine (KOf.out _ ?r1).mono ?_
    case r1 => exact hr.below (by repeat' (first | with_reducible exact Below.refl _ _ | with_reducible assumption | with_reducible apply below_grews | with_reducible apply Below.drew | with_reducible apply Below.alloc | with_reducible apply Below.setCell | (simp [size_grew, -Nat.not_le, -Nat.not_lt] <;> omega)))
    rintro e w' ⟨v, rfl, hown, hb⟩
    obtain ⟨p1, rfl⟩ := below_grew hb
    obtain ⟨B, d, rfl, _, _⟩ := own_form hown
    have HR := Lib.hid (Reads.of_own (enc := encE) (k := 6) (fun _ => rfl) hown).2
    clear hb hown
    go_wp2_with (first | (go_at_call 13; refine (c_awake5 _).mono ?_; rintro e w' ⟨rfl, hb⟩; obtain ⟨p, rfl⟩ := below_grew hb; clear hb))
    refine (LOrd.out _ _ _ HR.out).mono ?_
    rintro e w' ⟨rfl, hb⟩
    obtain ⟨pLOrd, rfl⟩ := below_grew hb
    clear hb
    go_wp2_with (first | (go_at_call 13; refine (c_awake5 _).mono ?_; rintro e w' ⟨rfl, hb⟩; obtain ⟨p, rfl⟩ := below_grew hb; clear hb))
    refine (KOrd.out _ (hr.below (by repeat' (first | with_reducible exact Below.refl _ _ | with_reducible assumption | with_reducible apply below_grews | with_reducible apply Below.drew | with_reducible apply Below.alloc | with_reducible apply Below.setCell | (simp [size_grew, -Nat.not_le, -Nat.not_lt] <;> omega))))).mono ?_
    rintro e w' ⟨rfl, hb⟩
    obtain ⟨pKOrd, rfl⟩ := below_grew hb
    clear hb
    go_wp2_with (first | (go_at_call 13; refine (c_awake5 _).mono ?_; rintro e w' ⟨rfl, hb⟩; obtain ⟨p, rfl⟩ := below_grew hb; clear hb))
    refine (KFirst.out _ (hr.below (by repeat' (first | with_reducible exact Below.refl _ _ | with_reducible assumption | with_reducible apply below_grews | with_reducible apply Below.drew | with_reducible apply Below.alloc | with_reducible apply Below.setCell | (simp [size_grew, -Nat.not_le, -Nat.not_lt] <;> omega))))).mono ?_
    rintro e w' ⟨rfl, hb⟩
    obtain ⟨pKFirst, rfl⟩ := below_grew hb
    clear hb
    go_wp2_with (first | (go_at_call 13; refine (c_awake5 _).mono ?_; rintro e w' ⟨rfl, hb⟩; obtain ⟨p, rfl⟩ := below_grew hb; clear hb))
    refine (KBest.out _ (hr.below (by repeat' (first | with_reducible exact Below.refl _ _ | with_reducible assumption | with_reducible apply below_grews | with_reducible apply Below.drew | with_reducible apply Below.alloc | with_reducible apply Below.setCell | (simp [size_grew, -Nat.not_le, -Nat.not_lt] <;> omega))))).mono ?_
    rintro e w' ⟨rfl, hb⟩
    obtain ⟨pKBest, rfl⟩ := below_grew hb
    clear hb
    go_wp2_with (first | (go_at_call 13; refine (c_awake5 _).mono ?_; rintro e w' ⟨rfl, hb⟩; obtain ⟨p, rfl⟩ := below_grew hb; clear hb))
    all_goals
      refine bodyPost_ret (v := .bool true) ?_ rfl ⟨rfl, ?_⟩
      · simp [results, Try.f6, go_sem]
      · repeat' (first | with_reducible exact Below.refl _ _ | with_reducible assumption | with_reducible apply below_grews | with_reducible apply Below.drew | with_reducible apply Below.alloc | with_reducible apply Below.setCell | (simp [size_grew, -Nat.not_le, -Nat.not_lt] <;> omega))
  · obtain ⟨e1, e2⟩ := hfb rfl
    rw [e1, e2] at HBest
    clear e1 e2
    have KOf := Lib.hid HOf
    have KFirst := Lib.hid HFirst
    have KBest := Lib.hid HBest
    have KOrd := Lib.hid HOrd
    have LOrd := Lib.hid GOrd
    clear HOf HFirst HBest HOrd GOrd hw hfb
    go_enter Try.func6, Try.ntmps6
    go_wp2_with (first | (go_at_call 13; refine (c_awake5 _).mono ?_; rintro e w' ⟨rfl, hb⟩; obtain ⟨p, rfl⟩ := below_grew hb; clear hb))
    refine (KOf.out _ ?r1).mono ?_
    case r1 => exact hr.below (by repeat' (first | with_reducible exact Below.refl _ _ | with_reducible assumption | with_reducible apply below_grews | with_reducible apply Below.drew | with_reducible apply Below.alloc | with_reducible apply Below.setCell | (simp [size_grew, -Nat.not_le, -Nat.not_lt] <;> omega)))
    rintro e w' ⟨v, rfl, hown, hb⟩
    obtain ⟨p1, rfl⟩ := below_grew hb
    obtain ⟨B, d, rfl, _, _⟩ := own_form hown
    have HR := Lib.hid (Reads.of_own (enc := encE) (k := 6) (fun _ => rfl) hown).2
    clear hb hown
    go_wp2_with (first | (go_at_call 13; refine (c_awake5 _).mono ?_; rintro e w' ⟨rfl, hb⟩; obtain ⟨p, rfl⟩ := below_grew hb; clear hb))
    refine (LOrd.out _ _ _ HR.out).mono ?_
    rintro e w' ⟨rfl, hb⟩
    obtain ⟨pLOrd, rfl⟩ := below_grew hb
    clear hb
    go_wp2_with (first | (go_at_call 13; refine (c_awake5 _).mono ?_; rintro e w' ⟨rfl, hb⟩; obtain ⟨p, rfl⟩ := below_grew hb; clear hb))
    refine (KOrd.out _ (hr.below (by repeat' (first | with_reducible exact Below.refl _ _ | with_reducible assumption | with_reducible apply below_grews | with_reducible apply Below.drew | with_reducible apply Below.alloc | with_reducible apply Below.setCell | (simp [size_grew, -Nat.not_le, -Nat.not_lt] <;> omega))))).mono ?_
    rintro e w' ⟨rfl, hb⟩
    obtain ⟨pKOrd, rfl⟩ := below_grew hb
    clear hb
    go_wp2_with (first | (go_at_call 13; refine (c_awake5 _).mono ?_; rintro e w' ⟨rfl, hb⟩; obtain ⟨p, rfl⟩ := below_grew hb; clear hb))
    refine (KFirst.out _ (hr.below (by repeat' (first | with_reducible exact Below.refl _ _ | with_reducible assumption | with_reducible apply below_grews | with_reducible apply Below.drew | with_reducible apply Below.alloc | with_reducible apply Below.setCell | (simp [size_grew, -Nat.not_le, -Nat.not_lt] <;> omega))))).mono ?_
    rintro e w' ⟨rfl, hb⟩
    obtain ⟨pKFirst, rfl⟩ := below_grew hb
    clear hb
    go_wp2_with (first | (go_at_call 13; refine (c_awake5 _).mono ?_; rintro e w' ⟨rfl, hb⟩; obtain ⟨p, rfl⟩ := below_grew hb; clear hb))
    refine (KBest.out _ (hr.below (by repeat' (first | with_reducible exact Below.refl _ _ | with_reducible assumption | with_reducible apply below_grews | with_reducible apply Below.drew | with_reducible apply Below.alloc | with_reducible apply Below.setCell | (simp [size_grew, -Nat.not_le, -Nat.not_lt] <;> omega))))).mono ?_
    rintro e w' ⟨rfl, hb⟩
    obtain ⟨pKBest, rfl⟩ := below_grew hb
    clear hb
    go_wp2_with (first | (go_at_call 13; refine (c_awake5 _).mono ?_; rintro e w' ⟨rfl, hb⟩; obtain ⟨p, rfl⟩ := below_grew hb; clear hb))
    all_goals
      refine bodyPost_ret (v := .bool true) ?_ rfl ⟨rfl, ?_⟩
      · simp [results, Try.f6, go_sem]
      · repeat' (first | with_reducible exact Below.refl _ _ | with_reducible assumption | with_reducible apply below_grews | with_reducible apply Below.drew | with_reducible apply Below.alloc | with_reducible apply Below.setCell | (simp [size_grew, -Nat.not_le, -Nat.not_lt] <;> omega))
end Go.Proofs.Ytjgjohonbjmakaa
