/- What single calls do: First, Ordered, Tell. -/
import Derived.Test.YtjmnnkhdadoehaaGreatYWalkR
import Derived.Shelf.Abstract
import Derived.Test.YtjmnnkhdadoehaaGreatYSpec
namespace Go.Proofs.YtjmnnkhdadoehaaGreat
set_option linter.unusedSimpArgs false
set_option linter.unusedVariables false
open Go.RowKit Go.Shelf
attribute [local go_sem high] eql_25 neq_25 eql_44 neq_62 eql_48 eql_50
attribute [local go_sem] eqg_25 eqg_62 eqg_48 eqg_50 cell_grew frozen_grew size_grew grew_grew lt_addk Instr.field asAgg lt_gi_k
set_option maxRecDepth 100000 in
set_option maxHeartbeats 4000000 in
theorem c_Ordered (A : Option Addr) (c : Nat) (xs : List Ent) (hcap : xs.length ≤ c) (w : World) (hr : Reads encE 6 w A xs) :
    Calls Tryz.prog 111 #[.slice A xs.length c] w fun e w' => e = .returned (.bool (ordered xs)) ∧ Below w.heap.size w w' := by
  have hlen := hr.1
  go_enter Tryz.func111, Tryz.ntmps111
  go_wp2
  go_loopw [7] (fun v8 wr => ∃ k : Nat, k ≤ xs.length ∧ v8 = .int .i64 k ∧ Hid (ordTo xs k = true) ∧ ∃ q : Ext, wr = grew w q) (fun i _ => xs.length - (intOf i).toNat)
  case atStart => exact ⟨0, Nat.zero_le _, rfl, rfl, ⟨w.drawn, #[]⟩, by simp [grew]⟩
  case round =>
    obtain ⟨k, hk, rfl, H, q, rfl⟩ := hrel
    by_cases hlt : k < xs.length
    · obtain ⟨b, off, rfl, hb, h0, h1, h2, h3, h4, h5⟩ := hr.atE hlt
      have et : (xs.take k).length = k := by simp; omega
      have hc := c_ContainsFuncE (some ⟨b, off, none⟩) c (xs.take k) 140 #[.pointer (some ⟨w.heap.size + q.os.size, 0, none⟩)] (fun y => eAbove xs[k] y) ((grew w q).alloc (.cells #[.int .u64 (xs[k]).w.v.x, .int .u64 (xs[k]).w.v.y, .int .u64 (xs[k]).w.m.x, .int .u64 (xs[k]).w.m.y, .int .i64 (xs[k]).len, .int .i64 (xs[k]).act] 46)) (((hr.take k).grew q).alloc _)
        (enters_of Tryz.func140 (by kernel_rfl) rfl) (fun W x hW => c_Ordered1 x xs[k] (w.heap.size + q.os.size) W (Nat.lt_of_lt_of_le (by simp [size_grew]) hW.size)
          ((hW.cell (p := ⟨w.heap.size + q.os.size, 0, none⟩) (by simp [size_grew])).trans (by rw [← size_grew]; simp)) ((hW.cell (p := ⟨w.heap.size + q.os.size, 1, none⟩) (by simp [size_grew])).trans (by rw [← size_grew]; simp))
          ((hW.cell (p := ⟨w.heap.size + q.os.size, 2, none⟩) (by simp [size_grew])).trans (by rw [← size_grew]; simp)) ((hW.cell (p := ⟨w.heap.size + q.os.size, 3, none⟩) (by simp [size_grew])).trans (by rw [← size_grew]; simp))
          ((hW.cell (p := ⟨w.heap.size + q.os.size, 4, none⟩) (by simp [size_grew])).trans (by rw [← size_grew]; simp)) ((hW.cell (p := ⟨w.heap.size + q.os.size, 5, none⟩) (by simp [size_grew])).trans (by rw [← size_grew]; simp)))
      rw [et] at hc
      have ec : (xs.take k).any (fun y => eAbove xs[k] y) = (xs.take k).any (fun y => eAbove (nth xs k) y) := by rw [nth_at xs hlt]
      rw [ec] at hc
      cases hany : (xs.take k).any (fun y => eAbove (nth xs k) y) with
      | true =>
        rw [hany] at hc
        have hf := Lib.hid (ordTo_false xs hany xs.length hlt)
        clear hany ec et
        go_wp2_with fail
        refine hc.mono ?_
        rintro e w' ⟨rfl, hb'⟩
        clear hc
        obtain ⟨q', rfl⟩ := below_grew hb'
        clear hb'
        go_wp2
        refine bodyPost_ret (v := .bool (ordered xs)) ?_ rfl ⟨rfl, ?_⟩
        · rw [show ordered xs = false from hf.out]
          simp [results, Tryz.f111, go_sem]
        · repeat' (first | with_reducible exact Below.refl _ _ | with_reducible assumption | with_reducible apply below_grews | with_reducible apply Below.drew | with_reducible apply Below.alloc | with_reducible apply Below.setCell | (simp [size_grew, -Nat.not_le, -Nat.not_lt] <;> omega))
      | false =>
        rw [hany] at hc
        have hf : Hid (ordTo xs (k + 1) = true) := by show ordTo xs (k + 1) = true; simp only [ordTo, H.out, hany]; rfl
        clear hany ec et
        go_wp2_with fail
        refine hc.mono ?_
        rintro e w' ⟨rfl, hb'⟩
        clear hc
        obtain ⟨q', rfl⟩ := below_grew hb'
        clear hb'
        go_wp2
        go_roundw
        case rel => exact ⟨k + 1, by omega, by go_num, hf, below_grew (by repeat' (first | with_reducible exact Below.refl _ _ | with_reducible assumption | with_reducible apply below_grews | with_reducible apply Below.drew | with_reducible apply Below.alloc | with_reducible apply Below.setCell | (simp [size_grew, -Nat.not_le, -Nat.not_lt] <;> omega)))⟩
        case measure => first | (simp [intOf]; done) | (simp [intOf]; omega)
    · obtain rfl : k = xs.length := by omega
      go_wp2
      refine bodyPost_ret (v := .bool (ordered xs)) ?_ rfl ⟨rfl, ?_⟩
      · rw [show ordered xs = true from H.out]
        simp [results, Tryz.f111, go_sem]
      · repeat' (first | with_reducible exact Below.refl _ _ | with_reducible assumption | with_reducible apply below_grews | with_reducible apply Below.drew | with_reducible apply Below.alloc | with_reducible apply Below.setCell | (simp [size_grew, -Nat.not_le, -Nat.not_lt] <;> omega))
end Go.Proofs.YtjmnnkhdadoehaaGreat

/- What single calls do: awake. -/
namespace Go.Proofs.YtjmnnkhdadoehaaGreat
set_option linter.unusedSimpArgs false
set_option linter.unusedVariables false
open Go.RowKit
attribute [local go_sem high] eql_25 neq_25 eql_44 neq_62 eql_48 eql_50
attribute [local go_sem] eqg_25 eqg_62 eqg_48 eqg_50 cell_grew frozen_grew size_grew grew_grew lt_addk Instr.field asAgg lt_gi_k
end Go.Proofs.YtjmnnkhdadoehaaGreat
