/- What single calls do: the reference's order of a row. -/
import Derived.Test.YtjmnnkhdadoehaaZWalkR
import Derived.Test.YtjmnnkhdadoehaaZPureA
namespace Go.Proofs.Ytjmnnkhdadoehaa
set_option linter.unusedSimpArgs false
set_option linter.unusedVariables false
open Go.RowKit
attribute [local irreducible] rMatch rMeet
def rQ (xs : List Ent) (i k : Nat) : Bool := !(decide (i < k) && (decide ((nth xs i).len < (nth xs k).len) && rMeet (nth xs k).w (nth xs i).w))
def rOrdered (xs : List Ent) : Bool := allTo (fun i => allTo (rQ xs i) xs.length) xs.length
theorem rQ_low (xs : List Ent) (i : Nat) : allTo (rQ xs i) (i + 1) = true := by
  rw [allTo_iff]
  intro k hk
  have : ¬ i < k := by omega
  simp [rQ, this]
theorem rQ_hit {xs : List Ent} {i k : Nat} (hik : i < k) (hi : i < xs.length) (hk : k < xs.length) (h : (decide (xs[i].len < xs[k].len) && rMeet xs[k].w xs[i].w) = true) : rQ xs i k = false := by
  unfold rQ; rw [nth_at xs hi, nth_at xs hk, h]; simp [hik]
theorem rQ_miss {xs : List Ent} {i k : Nat} (hi : i < xs.length) (hk : k < xs.length) (h : (decide (xs[i].len < xs[k].len) && rMeet xs[k].w xs[i].w) = false) : rQ xs i k = true := by
  unfold rQ; rw [nth_at xs hi, nth_at xs hk, h]; simp
theorem rOrd_false {xs : List Ent} {i k : Nat} (hi : i < xs.length) (hk : k < xs.length) (h : rQ xs i k = false) : rOrdered xs = false :=
  allTo_false (p := fun i => allTo (rQ xs i) xs.length) (allTo_false h _ hk) _ hi
theorem ordTo_iff (xs : List Ent) : ∀ n, n ≤ xs.length → (ordTo xs n = true ↔ ∀ k, k < n → ∀ i, i < k → eAbove (nth xs k) (nth xs i) = false)
  | 0, _ => by simp [ordTo]
  | n + 1, hn => by
    have ih := ordTo_iff xs n (by omega)
    simp only [ordTo, Bool.and_eq_true, ih, Bool.not_eq_true', Bool.eq_false_iff, ne_eq, List.any_eq_true, not_exists, not_and]
    constructor
    · rintro ⟨h1, h2⟩ k hk i hi
      by_cases e : k = n
      · subst e
        refine h2 (nth xs i) ?_
        rw [nth_at xs (by omega)]
        exact List.mem_take_iff_getElem.2 ⟨i, by omega, rfl⟩
      · exact h1 k (by omega) i hi
    · intro h
      refine ⟨fun k hk i hi => h k (by omega) i hi, fun y hy => ?_⟩
      obtain ⟨i, hi, rfl⟩ := List.mem_take_iff_getElem.1 hy
      have := h n (by omega) i (by omega)
      rwa [nth_at xs (by omega : i < xs.length)] at this
theorem rOrdered_ordered (xs : List Ent) (hok : ∀ x ∈ xs, x.w.ok) : rOrdered xs = ordered xs := by
  have hn : ∀ i, i < xs.length → (nth xs i).w.ok := fun i hi => by rw [nth_at xs hi]; exact hok _ (List.getElem_mem hi)
  rw [Bool.eq_iff_iff]
  unfold ordered rOrdered
  rw [ordTo_iff xs _ (Nat.le_refl _), allTo_iff]
  constructor
  · intro h k hk i hi
    have h1 := (allTo_iff _ _).1 (h i (by omega)) k hk
    unfold rQ at h1
    unfold eAbove
    rw [meet_ref (hn k hk) (hn i (by omega))]
    cases hl : (decide ((nth xs i).len < (nth xs k).len) && rMeet (nth xs k).w (nth xs i).w) with
    | false => rfl
    | true => rw [hl] at h1; simp [hi] at h1
  · intro h i hi
    rw [allTo_iff]
    intro k hk
    unfold rQ
    by_cases hik : i < k
    · have h1 := h k hk i hik
      unfold eAbove at h1
      rw [meet_ref (hn k hk) (hn i (by omega))] at h1
      rw [h1]; simp
    · simp [hik]
attribute [local go_sem high] eql_25 neq_25 eql_24 neq_24 eql_27 neq_27 eql_41 neq_41 eql_29 neq_29 eql_43 neq_43 eql_108 neq_108 eql_61 neq_61 eql_90 neq_90 eql_64 neq_64 eql_104 neq_104 eql_67 neq_67 eql_71 neq_71
attribute [local go_sem ↓ high] yielded_undef
attribute [local go_sem] eqg_25 eqg_24 eqg_27 eqg_41 eqg_29 eqg_43 eqg_108 eqg_61 eqg_90 eqg_64 eqg_104 eqg_67 eqg_71 cell_grew frozen_grew size_grew grew_grew drewN_grew lt_addk size_setW Instr.field asAgg lt_gi_k lt_gi_kh lt_gi_k_k lt_gi_k_kh lt_gi_k_k_k lt_gi_k_k_kh lt_gi_i_k lt_gi_i_kh lt_gi_i_k_k lt_gi_i_k_kh lt_gi_i_k_k_k lt_gi_i_k_k_kh lt_gi_i_i_k lt_gi_i_i_kh lt_gi_i_i_k_k lt_gi_i_i_k_kh lt_gi_i_i_k_k_k lt_gi_i_i_k_k_kh lt_gi_i_i_i_k lt_gi_i_i_i_kh lt_gi_i_i_i_k_k lt_gi_i_i_i_k_kh lt_gi_i_i_i_k_k_k lt_gi_i_i_i_k_k_kh lt_gi_i_i_i_i_k lt_gi_i_i_i_i_kh lt_gi_i_i_i_i_k_k lt_gi_i_i_i_i_k_kh lt_gi_i_i_i_i_k_k_k lt_gi_i_i_i_i_k_k_kh lt_gi_i_i_i_i_i_k lt_gi_i_i_i_i_i_kh lt_gi_i_i_i_i_i_k_k lt_gi_i_i_i_i_i_k_kh lt_gi_i_i_i_i_i_k_k_k lt_gi_i_i_i_i_i_k_k_kh lt_gi_i_i_i_i_i_i_k lt_gi_i_i_i_i_i_i_kh lt_gi_i_i_i_i_i_i_k_k lt_gi_i_i_i_i_i_i_k_kh lt_gi_i_i_i_i_i_i_k_k_k lt_gi_i_i_i_i_i_i_k_k_kh lt_gi_i_i_i_i_i_i_i_k lt_gi_i_i_i_i_i_i_i_kh lt_gi_i_i_i_i_i_i_i_k_k lt_gi_i_i_i_i_i_i_i_k_kh lt_gi_i_i_i_i_i_i_i_k_k_k lt_gi_i_i_i_i_i_i_i_k_k_kh lt_gi_k_i lt_gi_k_ih lt_gi_k_i_k lt_gi_k_i_kh lt_gi_k_k_i lt_gi_k_k_ih lt_gi_k_k_i_k lt_gi_k_k_i_kh lt_gi_k_i_i lt_gi_k_i_ih lt_gi_k_i_i_k lt_gi_k_i_i_kh lt_gi_k_k_i_i lt_gi_k_k_i_ih lt_gi_k_k_i_i_k lt_gi_k_k_i_i_kh lt_gi_k_i_i_i lt_gi_k_i_i_ih lt_gi_k_i_i_i_k lt_gi_k_i_i_i_kh lt_gi_k_k_i_i_i lt_gi_k_k_i_i_ih lt_gi_k_k_i_i_i_k lt_gi_k_k_i_i_i_kh lt_gi_i_k_i lt_gi_i_k_ih lt_gi_i_k_i_k lt_gi_i_k_i_kh lt_gi_i_k_k_i lt_gi_i_k_k_ih lt_gi_i_k_k_i_k lt_gi_i_k_k_i_kh lt_gi_i_k_i_i lt_gi_i_k_i_ih lt_gi_i_k_i_i_k lt_gi_i_k_i_i_kh lt_gi_i_k_k_i_i lt_gi_i_k_k_i_ih lt_gi_i_k_k_i_i_k lt_gi_i_k_k_i_i_kh lt_gi_i_k_i_i_i lt_gi_i_k_i_i_ih lt_gi_i_k_i_i_i_k lt_gi_i_k_i_i_i_kh lt_gi_i_k_k_i_i_i lt_gi_i_k_k_i_i_ih lt_gi_i_k_k_i_i_i_k lt_gi_i_k_k_i_i_i_kh lt_gi_i_i_k_i lt_gi_i_i_k_ih lt_gi_i_i_k_i_k lt_gi_i_i_k_i_kh lt_gi_i_i_k_k_i lt_gi_i_i_k_k_ih lt_gi_i_i_k_k_i_k lt_gi_i_i_k_k_i_kh lt_gi_i_i_k_i_i lt_gi_i_i_k_i_ih lt_gi_i_i_k_i_i_k lt_gi_i_i_k_i_i_kh lt_gi_i_i_k_k_i_i lt_gi_i_i_k_k_i_ih lt_gi_i_i_k_k_i_i_k lt_gi_i_i_k_k_i_i_kh lt_gi_i_i_k_i_i_i lt_gi_i_i_k_i_i_ih lt_gi_i_i_k_i_i_i_k lt_gi_i_i_k_i_i_i_kh lt_gi_i_i_k_k_i_i_i lt_gi_i_i_k_k_i_i_ih lt_gi_i_i_k_k_i_i_i_k lt_gi_i_i_k_k_i_i_i_kh lt_gi_i_i_i_k_i lt_gi_i_i_i_k_ih lt_gi_i_i_i_k_i_k lt_gi_i_i_i_k_i_kh lt_gi_i_i_i_k_k_i lt_gi_i_i_i_k_k_ih lt_gi_i_i_i_k_k_i_k lt_gi_i_i_i_k_k_i_kh lt_gi_i_i_i_k_i_i lt_gi_i_i_i_k_i_ih lt_gi_i_i_i_k_i_i_k lt_gi_i_i_i_k_i_i_kh lt_gi_i_i_i_k_k_i_i lt_gi_i_i_i_k_k_i_ih lt_gi_i_i_i_k_k_i_i_k lt_gi_i_i_i_k_k_i_i_kh lt_gi_i_i_i_k_i_i_i lt_gi_i_i_i_k_i_i_ih lt_gi_i_i_i_k_i_i_i_k lt_gi_i_i_i_k_i_i_i_kh lt_gi_i_i_i_k_k_i_i_i lt_gi_i_i_i_k_k_i_i_ih lt_gi_i_i_i_k_k_i_i_i_k lt_gi_i_i_i_k_k_i_i_i_kh lt_gi_i_i_i_i_k_i lt_gi_i_i_i_i_k_ih lt_gi_i_i_i_i_k_i_k lt_gi_i_i_i_i_k_i_kh lt_gi_i_i_i_i_k_k_i lt_gi_i_i_i_i_k_k_ih lt_gi_i_i_i_i_k_k_i_k lt_gi_i_i_i_i_k_k_i_kh lt_gi_i_i_i_i_k_i_i lt_gi_i_i_i_i_k_i_ih lt_gi_i_i_i_i_k_i_i_k lt_gi_i_i_i_i_k_i_i_kh lt_gi_i_i_i_i_k_k_i_i lt_gi_i_i_i_i_k_k_i_ih lt_gi_i_i_i_i_k_k_i_i_k lt_gi_i_i_i_i_k_k_i_i_kh lt_gi_i_i_i_i_k_i_i_i lt_gi_i_i_i_i_k_i_i_ih lt_gi_i_i_i_i_k_i_i_i_k lt_gi_i_i_i_i_k_i_i_i_kh lt_gi_i_i_i_i_k_k_i_i_i lt_gi_i_i_i_i_k_k_i_i_ih lt_gi_i_i_i_i_k_k_i_i_i_k lt_gi_i_i_i_i_k_k_i_i_i_kh
set_option maxRecDepth 100000 in
set_option maxHeartbeats 4000000 in
theorem c_rOrdered (A : Option Addr) (c : Nat) (xs : List Ent) (hok : ∀ x ∈ xs, x.w.ok) (w : World) (hr : Reads encE 6 w A xs) :
    Calls Try.prog 21 #[.slice A xs.length c] w fun e w' => e = .returned (.bool (rOrdered xs)) ∧ Below w.heap.size w w' := by
  have hlen := hr.1
  have Hok := Lib.hid hok
  clear hok
  go_enter Try.func21, Try.ntmps21
  go_wp2
  go_loopw [3] (fun v3 wr => ∃ i : Nat, i ≤ xs.length ∧ v3 = .int .i64 i ∧ Hid (allTo (fun i => allTo (rQ xs i) xs.length) i = true) ∧ ∃ q : Ext, wr = grew w q) (fun i _ => xs.length - (intOf i).toNat)
  case atStart => exact ⟨0, Nat.zero_le _, rfl, rfl, ⟨w.drawn, #[]⟩, by first | (simp [grew]; done) | (simp [grew]; rfl)⟩
  case round =>
    obtain ⟨i, hi, rfl, H, q, rfl⟩ := hrel
    by_cases hlt : i < xs.length
    · go_wp2
      go_loopw [4] (fun v4 wr => ∃ k : Nat, i + 1 ≤ k ∧ k ≤ xs.length ∧ v4 = .int .i64 k ∧ Hid (allTo (rQ xs i) k = true) ∧ ∃ q : Ext, wr = grew w q) (fun i _ => xs.length - (intOf i).toNat)
      case atStart => exact ⟨i + 1, Nat.le_refl _, hlt, by go_num, rQ_low xs i, q, rfl⟩
      case round =>
        obtain ⟨k, hik, hk, rfl, H1, q1, rfl⟩ := hrel
        by_cases hlk : k < xs.length
        · obtain ⟨bl, off, rfl, hb, h0, h1, h2, h3, h4, h5⟩ := hr.atE hlk
          obtain ⟨g0, g1, g2, g3, g4, g5⟩ := hr.atE' hlt
          have o1 : A2.ok ⟨xs[k].w.v.x, xs[k].w.v.y⟩ := (Hok.out _ (List.getElem_mem hlk)).1
          have o2 : A2.ok ⟨xs[k].w.m.x, xs[k].w.m.y⟩ := (Hok.out _ (List.getElem_mem hlk)).2
          have o3 : A2.ok ⟨xs[i].w.v.x, xs[i].w.v.y⟩ := (Hok.out _ (List.getElem_mem hlt)).1
          have o4 : A2.ok ⟨xs[i].w.m.x, xs[i].w.m.y⟩ := (Hok.out _ (List.getElem_mem hlt)).2
          have hc := fun W => c_rAbove xs[k].w.v.x xs[k].w.v.y xs[k].w.m.x xs[k].w.m.y xs[k].len xs[k].act xs[i].w.v.x xs[i].w.v.y xs[i].w.m.x xs[i].w.m.y xs[i].len xs[i].act o1 o2 o3 o4 W
          change ∀ W, Calls _ _ _ W fun e w' => e = .returned (.bool (decide (xs[i].len < xs[k].len) && rMeet xs[k].w xs[i].w)) ∧ Below W.heap.size W w' at hc
          clear o1 o2 o3 o4
          cases hq : (decide (xs[i].len < xs[k].len) && rMeet xs[k].w xs[i].w) with
          | true =>
            rw [hq] at hc
            have HC := Lib.hid hc
            have Hq := Lib.hid (rOrd_false hlt hlk (rQ_hit hik hlt hlk hq))
            clear hc hq
            go_wp2_with (first | (go_at_call 61; refine (HC.out _).mono ?_; rintro e w' ⟨rfl, hb⟩; obtain ⟨p, rfl⟩ := below_grew hb; clear hb) | (go_at_call 61; refine (c_rAbove _ _ _ _ _ _ _ _ _ _ _ _ (by assumption) (by assumption) (by assumption) (by assumption) _).mono ?_; rintro e w' ⟨rfl, hb⟩; obtain ⟨p, rfl⟩ := below_grew hb; clear hb) | (refine wp_region_mix (id := 7) 8 [(0, true), (1, true), (2, true), (3, true), (4, true), (5, true), (6, true), (7, true)] (by kernel_rfl) (by kernel_rfl) ?_) | (refine mix_quiet rfl (fun K hK => ?_); go_simp) | (apply Exists.intro; refine ⟨fun (_ : Ext) => ?_, ?_⟩; · (first | (go_at_call 61; exact calls_later (c_rAbove _ _ _ _ _ _ _ _ _ _ _ _ (by assumption) (by assumption) (by assumption) (by assumption) _)))) | (refine mix_end (fun p => ?_); simp only [List.drop_succ_cons, List.drop_zero]))
            refine bodyPost_ret (v := .bool (rOrdered xs)) ?_ rfl ⟨rfl, ?_⟩
            · rw [Hq.out]
              simp [results, Try.f21, go_sem]
            · repeat' (first | with_reducible exact Below.refl _ _ | with_reducible assumption | with_reducible apply below_grews | with_reducible apply Below.drew | with_reducible apply Below.alloc | with_reducible apply Below.setCell | (simp [size_grew, -Nat.not_le, -Nat.not_lt] <;> omega))
          | false =>
            rw [hq] at hc
            have HC := Lib.hid hc
            have Hq := Lib.hid (allTo_succ H1.out (rQ_miss hlt hlk hq))
            clear hc hq
            go_wp2_with (first | (go_at_call 61; refine (HC.out _).mono ?_; rintro e w' ⟨rfl, hb⟩; obtain ⟨p, rfl⟩ := below_grew hb; clear hb) | (go_at_call 61; refine (c_rAbove _ _ _ _ _ _ _ _ _ _ _ _ (by assumption) (by assumption) (by assumption) (by assumption) _).mono ?_; rintro e w' ⟨rfl, hb⟩; obtain ⟨p, rfl⟩ := below_grew hb; clear hb) | (refine wp_region_mix (id := 7) 8 [(0, true), (1, true), (2, true), (3, true), (4, true), (5, true), (6, true), (7, true)] (by kernel_rfl) (by kernel_rfl) ?_) | (refine mix_quiet rfl (fun K hK => ?_); go_simp) | (apply Exists.intro; refine ⟨fun (_ : Ext) => ?_, ?_⟩; · (first | (go_at_call 61; exact calls_later (c_rAbove _ _ _ _ _ _ _ _ _ _ _ _ (by assumption) (by assumption) (by assumption) (by assumption) _)))) | (refine mix_end (fun p => ?_); simp only [List.drop_succ_cons, List.drop_zero]))
            go_roundw
            case rel => exact ⟨k + 1, by omega, by omega, by go_num, Hq, below_grew (by repeat' (first | with_reducible exact Below.refl _ _ | with_reducible assumption | with_reducible apply below_grews | with_reducible apply Below.drew | with_reducible apply Below.alloc | with_reducible apply Below.setCell | (simp [size_grew, -Nat.not_le, -Nat.not_lt] <;> omega)))⟩
            case measure => first | (simp [intOf]; done) | (simp [intOf]; omega)
        · obtain rfl : k = xs.length := by omega
          have Hi := Lib.hid (allTo_succ (p := fun i => allTo (rQ xs i) xs.length) H.out H1.out)
          go_wp2
          go_roundw
          case rel => exact ⟨i + 1, by omega, by go_num, Hi, below_grew (by repeat' (first | with_reducible exact Below.refl _ _ | with_reducible assumption | with_reducible apply below_grews | with_reducible apply Below.drew | with_reducible apply Below.alloc | with_reducible apply Below.setCell | (simp [size_grew, -Nat.not_le, -Nat.not_lt] <;> omega)))⟩
          case measure => first | (simp [intOf]; done) | (simp [intOf]; omega)
    · obtain rfl : i = xs.length := by omega
      go_wp2
      refine bodyPost_ret (v := .bool (rOrdered xs)) ?_ rfl ⟨rfl, ?_⟩
      · rw [show rOrdered xs = true from H.out]
        simp [results, Try.f21, go_sem]
      · repeat' (first | with_reducible exact Below.refl _ _ | with_reducible assumption | with_reducible apply below_grews | with_reducible apply Below.drew | with_reducible apply Below.alloc | with_reducible apply Below.setCell | (simp [size_grew, -Nat.not_le, -Nat.not_lt] <;> omega))
end Go.Proofs.Ytjmnnkhdadoehaa
