/- What single calls do: First, Ordered, Tell. -/
import Derived.Test.YtjgjohonbjmakaaWalkC
import Derived.Test.YtjgjohonbjmakaaWalkD
import Derived.Test.YtjgjohonbjmakaaWalkR2
import Derived.Shelf.Abstract
namespace Go.Proofs.Ytjgjohonbjmakaa
set_option linter.unusedSimpArgs false
set_option linter.unusedVariables false
open Go.RowKit Go.Shelf
attribute [local go_sem high] eql_25 neq_25 eql_24 neq_24 eql_27 neq_27 eql_32 neq_32 eql_29 neq_29 eql_34 neq_34 eql_41 neq_41 eql_44 neq_44
attribute [local go_sem ↓ high] yielded_undef
attribute [local go_sem] eqg_25 eqg_24 eqg_27 eqg_32 eqg_29 eqg_34 eqg_41 eqg_44 cell_grew frozen_grew size_grew grew_grew drewN_grew lt_addk size_setW Instr.field asAgg lt_gi_k lt_gi_kh lt_gi_k_k lt_gi_k_kh lt_gi_k_k_k lt_gi_k_k_kh lt_gi_i_k lt_gi_i_kh lt_gi_i_k_k lt_gi_i_k_kh lt_gi_i_k_k_k lt_gi_i_k_k_kh lt_gi_i_i_k lt_gi_i_i_kh lt_gi_i_i_k_k lt_gi_i_i_k_kh lt_gi_i_i_k_k_k lt_gi_i_i_k_k_kh lt_gi_i_i_i_k lt_gi_i_i_i_kh lt_gi_i_i_i_k_k lt_gi_i_i_i_k_kh lt_gi_i_i_i_k_k_k lt_gi_i_i_i_k_k_kh lt_gi_i_i_i_i_k lt_gi_i_i_i_i_kh lt_gi_i_i_i_i_k_k lt_gi_i_i_i_i_k_kh lt_gi_i_i_i_i_k_k_k lt_gi_i_i_i_i_k_k_kh lt_gi_i_i_i_i_i_k lt_gi_i_i_i_i_i_kh lt_gi_i_i_i_i_i_k_k lt_gi_i_i_i_i_i_k_kh lt_gi_i_i_i_i_i_k_k_k lt_gi_i_i_i_i_i_k_k_kh lt_gi_i_i_i_i_i_i_k lt_gi_i_i_i_i_i_i_kh lt_gi_i_i_i_i_i_i_k_k lt_gi_i_i_i_i_i_i_k_kh lt_gi_i_i_i_i_i_i_k_k_k lt_gi_i_i_i_i_i_i_k_k_kh lt_gi_i_i_i_i_i_i_i_k lt_gi_i_i_i_i_i_i_i_kh lt_gi_i_i_i_i_i_i_i_k_k lt_gi_i_i_i_i_i_i_i_k_kh lt_gi_i_i_i_i_i_i_i_k_k_k lt_gi_i_i_i_i_i_i_i_k_k_kh lt_gi_k_i lt_gi_k_ih lt_gi_k_i_k lt_gi_k_i_kh lt_gi_k_k_i lt_gi_k_k_ih lt_gi_k_k_i_k lt_gi_k_k_i_kh lt_gi_k_i_i lt_gi_k_i_ih lt_gi_k_i_i_k lt_gi_k_i_i_kh lt_gi_k_k_i_i lt_gi_k_k_i_ih lt_gi_k_k_i_i_k lt_gi_k_k_i_i_kh lt_gi_k_i_i_i lt_gi_k_i_i_ih lt_gi_k_i_i_i_k lt_gi_k_i_i_i_kh lt_gi_k_k_i_i_i lt_gi_k_k_i_i_ih lt_gi_k_k_i_i_i_k lt_gi_k_k_i_i_i_kh lt_gi_i_k_i lt_gi_i_k_ih lt_gi_i_k_i_k lt_gi_i_k_i_kh lt_gi_i_k_k_i lt_gi_i_k_k_ih lt_gi_i_k_k_i_k lt_gi_i_k_k_i_kh lt_gi_i_k_i_i lt_gi_i_k_i_ih lt_gi_i_k_i_i_k lt_gi_i_k_i_i_kh lt_gi_i_k_k_i_i lt_gi_i_k_k_i_ih lt_gi_i_k_k_i_i_k lt_gi_i_k_k_i_i_kh lt_gi_i_k_i_i_i lt_gi_i_k_i_i_ih lt_gi_i_k_i_i_i_k lt_gi_i_k_i_i_i_kh lt_gi_i_k_k_i_i_i lt_gi_i_k_k_i_i_ih lt_gi_i_k_k_i_i_i_k lt_gi_i_k_k_i_i_i_kh lt_gi_i_i_k_i lt_gi_i_i_k_ih lt_gi_i_i_k_i_k lt_gi_i_i_k_i_kh lt_gi_i_i_k_k_i lt_gi_i_i_k_k_ih lt_gi_i_i_k_k_i_k lt_gi_i_i_k_k_i_kh lt_gi_i_i_k_i_i lt_gi_i_i_k_i_ih lt_gi_i_i_k_i_i_k lt_gi_i_i_k_i_i_kh lt_gi_i_i_k_k_i_i lt_gi_i_i_k_k_i_ih lt_gi_i_i_k_k_i_i_k lt_gi_i_i_k_k_i_i_kh lt_gi_i_i_k_i_i_i lt_gi_i_i_k_i_i_ih lt_gi_i_i_k_i_i_i_k lt_gi_i_i_k_i_i_i_kh lt_gi_i_i_k_k_i_i_i lt_gi_i_i_k_k_i_i_ih lt_gi_i_i_k_k_i_i_i_k lt_gi_i_i_k_k_i_i_i_kh lt_gi_i_i_i_k_i lt_gi_i_i_i_k_ih lt_gi_i_i_i_k_i_k lt_gi_i_i_i_k_i_kh lt_gi_i_i_i_k_k_i lt_gi_i_i_i_k_k_ih lt_gi_i_i_i_k_k_i_k lt_gi_i_i_i_k_k_i_kh lt_gi_i_i_i_k_i_i lt_gi_i_i_i_k_i_ih lt_gi_i_i_i_k_i_i_k lt_gi_i_i_i_k_i_i_kh lt_gi_i_i_i_k_k_i_i lt_gi_i_i_i_k_k_i_ih lt_gi_i_i_i_k_k_i_i_k lt_gi_i_i_i_k_k_i_i_kh lt_gi_i_i_i_k_i_i_i lt_gi_i_i_i_k_i_i_ih lt_gi_i_i_i_k_i_i_i_k lt_gi_i_i_i_k_i_i_i_kh lt_gi_i_i_i_k_k_i_i_i lt_gi_i_i_i_k_k_i_i_ih lt_gi_i_i_i_k_k_i_i_i_k lt_gi_i_i_i_k_k_i_i_i_kh lt_gi_i_i_i_i_k_i lt_gi_i_i_i_i_k_ih lt_gi_i_i_i_i_k_i_k lt_gi_i_i_i_i_k_i_kh lt_gi_i_i_i_i_k_k_i lt_gi_i_i_i_i_k_k_ih lt_gi_i_i_i_i_k_k_i_k lt_gi_i_i_i_i_k_k_i_kh lt_gi_i_i_i_i_k_i_i lt_gi_i_i_i_i_k_i_ih lt_gi_i_i_i_i_k_i_i_k lt_gi_i_i_i_i_k_i_i_kh lt_gi_i_i_i_i_k_k_i_i lt_gi_i_i_i_i_k_k_i_ih lt_gi_i_i_i_i_k_k_i_i_k lt_gi_i_i_i_i_k_k_i_i_kh lt_gi_i_i_i_i_k_i_i_i lt_gi_i_i_i_i_k_i_i_ih lt_gi_i_i_i_i_k_i_i_i_k lt_gi_i_i_i_i_k_i_i_i_kh lt_gi_i_i_i_i_k_k_i_i_i lt_gi_i_i_i_i_k_k_i_i_ih lt_gi_i_i_i_i_k_k_i_i_i_k lt_gi_i_i_i_i_k_k_i_i_i_kh
set_option maxRecDepth 100000 in
set_option maxHeartbeats 4000000 in
theorem c_First (A : Option Addr) (c : Nat) (xs : List Ent) (a0 a1 : Int) (w : World) (hr : Reads encE 6 w A xs) :
    Calls Try.prog 24 #[.slice A xs.length c, .agg #[.int .u64 a0, .int .u64 a1]] w fun e w' => e = .returned (.tuple #[.int .i64 (if firstAt (fun x => wMatch x.w ⟨a0, a1⟩) xs < 0 then 0 else firstAt (fun x => wMatch x.w ⟨a0, a1⟩) xs), .bool (decide (0 ≤ firstAt (fun x => wMatch x.w ⟨a0, a1⟩) xs))]) ∧ Below w.heap.size w w' := by
  have hc := c_IndexFuncE A c xs 45 #[.pointer (some ⟨w.heap.size, 0, none⟩)] (fun x => wMatch x.w ⟨a0, a1⟩) (w.alloc (.cells #[.int .u64 a0, .int .u64 a1] 25)) (hr.alloc _)
    (enters_of Try.func45 (by kernel_rfl) rfl) (fun W x hW => c_First1 x ⟨a0, a1⟩ w.heap.size W (Nat.lt_of_lt_of_le (by simp) hW.size)
      ((hW.cell (p := ⟨w.heap.size, 0, none⟩) (by simp)).trans (by simp)) ((hW.cell (p := ⟨w.heap.size, 1, none⟩) (by simp)).trans (by simp)))
  generalize firstAt (fun x => wMatch x.w ⟨a0, a1⟩) xs = f at hc ⊢
  clear hr
  go_enter Try.func24, Try.ntmps24
  go_wp2_with fail
  refine hc.mono ?_
  rintro e w' ⟨rfl, hb⟩
  obtain ⟨p, rfl⟩ := below_grew hb
  clear hb hc
  go_wp2
  all_goals
    refine bodyPost_ret (v := .tuple #[.int .i64 (if f < 0 then 0 else f), .bool (decide (0 ≤ f))]) ?_ rfl ⟨?_, ?_⟩
    rotate_left
    · first | rfl | (simp_all; done) | (simp_all; omega)
    · repeat' (first | with_reducible exact Below.refl _ _ | with_reducible assumption | with_reducible apply below_grews | with_reducible apply Below.drew | with_reducible apply Below.alloc | with_reducible apply Below.setCell | (simp [size_grew, -Nat.not_le, -Nat.not_lt] <;> omega))
    · simp [results, Try.f24, go_sem] <;> first | omega | (split <;> omega) | (intros; omega) | simp_all
set_option maxRecDepth 100000 in
set_option maxHeartbeats 4000000 in
theorem c_Tell (A : Option Addr) (c : Nat) (xs : List Ent) (a0 a1 : Int) (w : World) (hr : Reads encE 6 w A xs) :
    Calls Try.prog 14 #[.slice A xs.length c, .agg #[.int .u64 a0, .int .u64 a1]] w fun e w' => e = .returned (.int .i64 (tell xs ⟨a0, a1⟩)) ∧ Below w.heap.size w w' := by
  have hlen := hr.1
  have hc := c_Best A c xs a0 a1 _ (hr.alloc (.cells #[.int .u64 a0, .int .u64 a1] 25))
  have hlt := Lib.hid (best_lt xs ⟨a0, a1⟩)
  obtain ⟨t, ht⟩ : ∃ t, t = tell xs ⟨a0, a1⟩ := ⟨_, rfl⟩
  rw [← ht]
  have Ht := Lib.hid ht
  clear ht
  go_enter Try.func14, Try.ntmps14
  go_wp2_with fail
  refine hc.mono ?_
  rintro e w' ⟨rfl, hb⟩
  obtain ⟨p, rfl⟩ := below_grew hb
  clear hb hc
  obtain ⟨j, hj⟩ : ∃ j, j = (best xs ⟨a0, a1⟩).1 := ⟨_, rfl⟩
  obtain ⟨b, hbs⟩ : ∃ b, b = (best xs ⟨a0, a1⟩).2 := ⟨_, rfl⟩
  rw [← hj, ← hbs]
  have hlt2 : b = true → j < xs.length := by rw [hj, hbs]; exact hlt.out
  have Hj := Lib.hid hj
  have Hb := Lib.hid hbs
  clear hj hbs hlt
  cases b with
  | false =>
    clear hlt2
    go_wp2
    refine bodyPost_ret (v := .int .i64 t) ?_ rfl ⟨rfl, ?_⟩
    · rw [Ht.out, show tell xs ⟨a0, a1⟩ = 0 from by unfold tell; rw [← Hb.out]; rfl]
      simp [results, Try.f14, go_sem]
    · repeat' (first | with_reducible exact Below.refl _ _ | with_reducible assumption | with_reducible apply below_grews | with_reducible apply Below.drew | with_reducible apply Below.alloc | with_reducible apply Below.setCell | (simp [size_grew, -Nat.not_le, -Nat.not_lt] <;> omega))
  | true =>
    have hjl : j < xs.length := hlt2 rfl
    clear hlt2
    obtain ⟨bl, off, rfl, hb, h0, h1, h2, h3, h4, h5⟩ := hr.atE hjl
    go_wp2
    refine bodyPost_ret (v := .int .i64 t) ?_ rfl ⟨rfl, ?_⟩
    · rw [Ht.out, show tell xs ⟨a0, a1⟩ = xs[j].act from by unfold tell; rw [← Hb.out, ← Hj.out, if_pos rfl, nth_at xs hjl]]
      simp [results, Try.f14, go_sem]
    · repeat' (first | with_reducible exact Below.refl _ _ | with_reducible assumption | with_reducible apply below_grews | with_reducible apply Below.drew | with_reducible apply Below.alloc | with_reducible apply Below.setCell | (simp [size_grew, -Nat.not_le, -Nat.not_lt] <;> omega))
set_option maxRecDepth 100000 in
set_option maxHeartbeats 4000000 in
theorem c_Ordered (A : Option Addr) (c : Nat) (xs : List Ent) (hcap : xs.length ≤ c) (w : World) (hr : Reads encE 6 w A xs) :
    Calls Try.prog 29 #[.slice A xs.length c] w fun e w' => e = .returned (.bool (ordered xs)) ∧ Below w.heap.size w w' := by
  have hlen := hr.1
  go_enter Try.func29, Try.ntmps29
  go_wp2
  go_loopw [7] (fun v8 wr => ∃ k : Nat, k ≤ xs.length ∧ v8 = .int .i64 k ∧ Hid (ordTo xs k = true) ∧ ∃ q : Ext, wr = grew w q) (fun i _ => xs.length - (intOf i).toNat)
  case atStart => exact ⟨0, Nat.zero_le _, rfl, rfl, ⟨w.drawn, #[]⟩, by simp [grew]⟩
  case round =>
    obtain ⟨k, hk, rfl, H, q, rfl⟩ := hrel
    by_cases hlt : k < xs.length
    · obtain ⟨b, off, rfl, hb, h0, h1, h2, h3, h4, h5⟩ := hr.atE hlt
      have et : (xs.take k).length = k := by simp; omega
      have hc := c_ContainsFuncE (some ⟨b, off, none⟩) c (xs.take k) 48 #[.pointer (some ⟨w.heap.size + q.os.size, 0, none⟩)] (fun y => eAbove xs[k] y) ((grew w q).alloc (.cells #[.int .u64 (xs[k]).w.v.x, .int .u64 (xs[k]).w.v.y, .int .u64 (xs[k]).w.m.x, .int .u64 (xs[k]).w.m.y, .int .i64 (xs[k]).len, .int .i64 (xs[k]).act] 29)) (((hr.take k).grew q).alloc _)
        (enters_of Try.func48 (by kernel_rfl) rfl) (fun W x hW => c_Ordered1 x xs[k] (w.heap.size + q.os.size) W (Nat.lt_of_lt_of_le (by simp [size_grew]) hW.size)
          ((hW.cell (p := ⟨w.heap.size + q.os.size, 0, none⟩) (by simp [size_grew])).trans (by rw [← size_grew]; simp)) ((hW.cell (p := ⟨w.heap.size + q.os.size, 1, none⟩) (by simp [size_grew])).trans (by rw [← size_grew]; simp))
          ((hW.cell (p := ⟨w.heap.size + q.os.size, 2, none⟩) (by simp [size_grew])).trans (by rw [← size_grew]; simp)) ((hW.cell (p := ⟨w.heap.size + q.os.size, 3, none⟩) (by simp [size_grew])).trans (by rw [← size_grew]; simp))
          ((hW.cell (p := ⟨w.heap.size + q.os.size, 4, none⟩) (by simp [size_grew])).trans (by rw [← size_grew]; simp)) ((hW.cell (p := ⟨w.heap.size + q.os.size, 5, none⟩) (by simp [size_grew])).trans (by rw [← size_grew]; simp)))
      rw [et] at hc
      have ec : (xs.take k).any (fun y => eAbove xs[k] y) = (xs.take k).any (fun y => eAbove (nth xs k) y) := by rw [nth_at xs hlt]
      rw [ec] at hc
      cases hany : (xs.take k).any (fun y => eAbove (nth xs k) y) with
      | true =>
        rw [hany] at hc
        have hf := Lib.hid (ordTo_false xs hany xs.length hlt)
        clear hany ec et
        go_wp2_with fail
        refine hc.mono ?_
        rintro e w' ⟨rfl, hb'⟩
        clear hc
        obtain ⟨q', rfl⟩ := below_grew hb'
        clear hb'
        go_wp2
        refine bodyPost_ret (v := .bool (ordered xs)) ?_ rfl ⟨rfl, ?_⟩
        · rw [show ordered xs = false from hf.out]
          simp [results, Try.f29, go_sem]
        · repeat' (first | with_reducible exact Below.refl _ _ | with_reducible assumption | with_reducible apply below_grews | with_reducible apply Below.drew | with_reducible apply Below.alloc | with_reducible apply Below.setCell | (simp [size_grew, -Nat.not_le, -Nat.not_lt] <;> omega))
      | false =>
        rw [hany] at hc
        have hf : Hid (ordTo xs (k + 1) = true) := by show ordTo xs (k + 1) = true; simp only [ordTo, H.out, hany]; rfl
        clear hany ec et
        go_wp2_with fail
        refine hc.mono ?_
        rintro e w' ⟨rfl, hb'⟩
        clear hc
        obtain ⟨q', rfl⟩ := below_grew hb'
        clear hb'
        go_wp2
        go_roundw
        case rel => exact ⟨k + 1, by omega, by go_num, hf, below_grew (by repeat' (first | with_reducible exact Below.refl _ _ | with_reducible assumption | with_reducible apply below_grews | with_reducible apply Below.drew | with_reducible apply Below.alloc | with_reducible apply Below.setCell | (simp [size_grew, -Nat.not_le, -Nat.not_lt] <;> omega)))⟩
        case measure => first | (simp [intOf]; done) | (simp [intOf]; omega)
    · obtain rfl : k = xs.length := by omega
      go_wp2
      refine bodyPost_ret (v := .bool (ordered xs)) ?_ rfl ⟨rfl, ?_⟩
      · rw [show ordered xs = true from H.out]
        simp [results, Try.f29, go_sem]
      · repeat' (first | with_reducible exact Below.refl _ _ | with_reducible assumption | with_reducible apply below_grews | with_reducible apply Below.drew | with_reducible apply Below.alloc | with_reducible apply Below.setCell | (simp [size_grew, -Nat.not_le, -Nat.not_lt] <;> omega))
end Go.Proofs.Ytjgjohonbjmakaa
