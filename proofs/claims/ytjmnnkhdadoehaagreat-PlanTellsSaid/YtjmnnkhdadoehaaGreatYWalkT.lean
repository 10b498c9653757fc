/- What single calls do: sorting. -/
import Derived.Test.YtjmnnkhdadoehaaGreatYWalkJ
import Derived.Test.YtjmnnkhdadoehaaGreatYSpecH
import Derived.Test.YtjmnnkhdadoehaaGreatYSortA
import Derived.Test.YtjmnnkhdadoehaaGreatYAppB
import Derived.Test.YtjmnnkhdadoehaaGreatYLaid
namespace Go.Proofs.YtjmnnkhdadoehaaGreat
set_option linter.unusedSimpArgs false
set_option linter.unusedVariables false
open Go.RowKit
attribute [local irreducible] eCmp rCmp
attribute [local go_sem high] eql_25 neq_25 eql_44 neq_62 eql_48 eql_50
attribute [local go_sem] eqg_25 eqg_62 eqg_48 eqg_50 cell_grew frozen_grew size_grew grew_grew lt_addk Instr.field asAgg lt_gi_k
set_option maxRecDepth 100000 in
set_option maxHeartbeats 4000000 in
theorem c_CloneE (A : Option Addr) (c : Nat) (xs : List Ent) (w : World) (hnil : A = none → c = 0) (hr : Reads encE 6 w A xs) (hm : xs.length ≤ 65536) :
    Calls Tryz.prog 68 #[.slice A xs.length c] w fun e w' => ∃ v, e = .returned v ∧ w'.ownsRow w.heap.size 46 6 v xs.length (xs.flatMap encE) ∧ Below w.heap.size w w' := by
  have q22 : ∀ (w : World) (a : Option Addr) (n c n' c' : Nat), (binOp .eql 28 (.slice a n c) (.slice none n' c')).run Tryz.prog w = .ok (.bool a.isNone) w := fun w a n c n' c' => Lib.run_eql_slice_nil w _ _ a n c n' c' Tryz.underlying28
  cases A with
  | none =>
    obtain rfl : xs = [] := by
      cases xs with
      | nil => rfl
      | cons y ys => obtain ⟨_, _, e2, _⟩ := hr.2 0 y rfl; cases e2
    obtain rfl := hnil rfl
    go_enter Tryz.func68, Tryz.ntmps68
    go_wp2
    go_ret
    exact ⟨_, rfl, World.ownsRow_nil _ _ _ _, Below.refl _ _⟩
  | some ad =>
    go_enter Tryz.func68, Tryz.ntmps68
    go_wp2_with (at_builtin; refine app_row (enc := encE) (e := 46) (n := 0) w.heap.size 6 48 zeroE (by kernel_rfl) (by kernel_rfl) rfl (by omega) (fun _ => rfl) oneCell_E rfl rfl [] rfl xs rfl rfl ?rdt (fun h => (by cases h)) ?owt (by omega) ?bat (by omega) ?_)
    case rdt => exact hr.alloc _
    case owt =>
      refine own_lit (k := 6) (fun _ => rfl) 46 w.heap.size [] rfl (Nat.le_refl _) rfl (by simp) rfl
    case bat => simp
    intro v1 w1 hown hg
    have hB : Below w.heap.size w w1 := below_own' ((Below.refl _ _).alloc (Nat.le_refl _) _) (by simp) hg (by intro b hb; cases hb; exact Nat.le_refl _)
    clear hg
    go_wp2
    go_ret
    exact ⟨v1, rfl, by simpa using hown, hB⟩
theorem lays_eCompare (blk off size : Nat) (w : World) : CmpLays Tryz.prog 70 #[] encE 6 eCmp blk off size w := fun _ _ _ _ x y =>
  (D.c_eCompare x y _).mono fun e w' ⟨he, p, hp⟩ => ⟨he, p.d, p.os, hp⟩
theorem c_sortAt (g cap : Nat) (xs : List Ent) (w : World) (hH : Sort.HoldsK encE 6 w g 0 xs.toArray) (hblk : g < w.heap.size) (hsz : xs.length ≤ 65536) :
    Calls Tryz.prog 69 #[.slice (some ⟨g, 0, none⟩) xs.length cap, .func (.func 70) #[] #[]] w fun e w' => e = .returned (.tuple #[]) ∧ ∃ n os, w' = sortWorldK encE 6 w g 0 n (sortE xs).toArray os := by
  have eg : ∀ args w, (callFunc 70 args).run Tryz.prog w = .ok (.enter 70 args) w := enters_of Tryz.func70 (by kernel_rfl) rfl
  have h := AnyQ.slices_SortFunc_total Tryz.laySortE 6 Tryz.isAgg46 Tryz.sizeOf46 encE (fun _ => rfl) oneCell_E eCmp swoE 70 #[] g 0 cap xs.toArray w eg (lays_eCompare g 0 _ w) hH hblk (by simp; omega) antiE
  simp only [List.toList_toArray] at h
  rw [sortE_lt, show xs.toArray.size = xs.length by simp] at h
  exact h
set_option maxRecDepth 100000 in
set_option maxHeartbeats 4000000 in
theorem c_eSort (A : Option Addr) (c : Nat) (xs : List Ent) (w : World) (hnil : A = none → c = 0) (hr : Reads encE 6 w A xs) (hm : xs.length ≤ 65536) :
    Calls Tryz.prog 36 #[.slice A xs.length c] w fun e w' => ∃ v, e = .returned v ∧ w'.ownsRow w.heap.size 46 6 v xs.length ((sortE xs).flatMap encE) ∧ Below w.heap.size w w' := by
  have hC := c_CloneE A c xs w hnil hr hm
  have HC := Lib.hid hC
  clear hC
  go_enter Tryz.func36, Tryz.ntmps36
  go_wp2_with fail
  refine HC.out.mono ?_
  rintro e w' ⟨v, rfl, hown, hB⟩
  rcases hown.2 with ⟨rfl, h0⟩ | ⟨g, cap, cur, rfl, hbg, hgo, h1, h2, h3, h4⟩
  · obtain rfl : xs = [] := List.eq_nil_of_length_eq_zero h0
    have hN := fun W => AnyF.slices_SortFunc_none Tryz.laySortE none 0 (.func (.func 70) #[] #[]) W
    change ∀ W, Calls _ 69 _ _ _ at hN
    have HN := Lib.hid hN
    clear hN hown
    go_wp2_with (go_at_call 69; refine (HN.out _).mono ?_; rintro e w2 ⟨rfl, rfl⟩)
    go_ret
    exact ⟨_, rfl, by simpa [sortE] using World.ownsRow_nil w2 w.heap.size 46 6, hB⟩
  · have hg : g < w'.heap.size := (Array.getElem?_eq_some_iff.1 hgo).1
    have hS := c_sortAt g cap xs w' (holds_own (enc := encE) (k := 6) (xs := xs) (fun _ => rfl) hgo h4) hg hm
    have HS := Lib.hid hS
    have hz : ∀ n os, (sortWorldK encE 6 w' g 0 n (sortE xs).toArray os).ownsRow w.heap.size 46 6 (.slice (some ⟨g, 0, none⟩) xs.length cap) xs.length ((sortE xs).flatMap encE) := fun n os => own_sortedK (enc := encE) (k := 6) (fun _ => rfl) (sortE_length xs) hbg hgo h1 h2 h3
    have hb2 : ∀ n os, Below w.heap.size w (sortWorldK encE 6 w' g 0 n (sortE xs).toArray os) := fun n os => below_own hB (grownBy_sortedK _) (by intro k hk; cases hk; exact hbg)
    have Hz := Lib.hid hz
    have Hb2 := Lib.hid hb2
    clear hS hz hb2 hown hgo h4 h3 h2
    go_wp2_with (go_at_call 69; refine HS.out.mono ?_; rintro e w2 ⟨rfl, n, os, rfl⟩)
    have e1 := Hz.out n os
    have e2 := Hb2.out n os
    go_wp2
    go_ret
    exact ⟨_, rfl, e1, e2⟩
end Go.Proofs.YtjmnnkhdadoehaaGreat
