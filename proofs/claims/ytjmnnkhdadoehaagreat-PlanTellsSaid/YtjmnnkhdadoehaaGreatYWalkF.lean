/- What single calls do: entries as the document has them. -/
import Derived.Test.YtjmnnkhdadoehaaGreatYWalkA
import Derived.Test.YtjmnnkhdadoehaaGreatYOwn
import Derived.Test.YtjmnnkhdadoehaaGreatYSpec
import Derived.Lib.Hide
namespace Go.Proofs.YtjmnnkhdadoehaaGreat
set_option linter.unusedSimpArgs false
set_option linter.unusedVariables false
open Go.RowKit
attribute [local go_sem high] eql_25 neq_25 eql_44 neq_62 eql_48 eql_50
attribute [local go_sem] eqg_25 eqg_62 eqg_48 eqg_50 cell_grew frozen_grew size_grew grew_grew lt_addk Instr.field asAgg lt_gi_k
set_option maxRecDepth 100000 in
set_option maxHeartbeats 4000000 in
theorem c_law5Of (A : Option Addr) (c : Nat) (xs : List Ent) (w : World) (hr : Reads encE 6 w A xs) (hmany : xs.length ≤ 65536) :
    Calls Tryz.prog 20 #[.slice A xs.length c] w fun e w' => ∃ v, e = .returned v ∧ w'.ownsRow w.heap.size 62 6 v xs.length (xs.flatMap encE) ∧ Below w.heap.size w w' := by
  have hlen := hr.1
  go_enter Tryz.func20, Tryz.ntmps20
  go_wp2
  go_loopw [3, 8] (fun v3 v8 wr => ∃ k : Nat, k ≤ xs.length ∧ v8 = .int .i64 k ∧ Hid (wr.ownsRow w.heap.size 62 6 v3 k ((xs.take k).flatMap encE)) ∧ Hid (Below w.heap.size w wr)) (fun _ i _ => xs.length - (intOf i).toNat)
  case atStart => exact ⟨0, Nat.zero_le _, rfl, World.ownsRow_nil _ _ _ _, Below.refl _ _⟩
  case round =>
    rename_i v3 v8 wr
    obtain ⟨k, hk, rfl, HO, HB⟩ := hrel
    by_cases hlt : k < xs.length
    · obtain ⟨b, off, rfl, hb, h0, h1, h2, h3, h4, h5⟩ := (hr.below HB.out).atE hlt
      go_wp2_with (first | (go_at_call 48; refine (c_law5One _ _ _ _ _ _ _).mono ?_; rintro e w' ⟨rfl, hb⟩; obtain ⟨p, rfl⟩ := below_grew hb; clear hb) | (at_builtin; refine app_one w.heap.size 6 48 (.agg #[.int .u64 0, .int .u64 0, .int .u64 0, .int .u64 0, .int .i64 0, .int .i64 0]) (by kernel_rfl) (by kernel_rfl) rfl (by omega) rfl rfl rfl (by simp [Act.eval, size_grew]) rfl (by simp [Value.oneCell']) (own_grew (HO.out.alloc _) _) (by omega) ?hb ?hl ?_))
      case hb => have h9 := HB.out.size; simp [size_grew]; omega
      case hl => omega
      intro v1 w1 hown hg
      have H1 : Hid (w1.ownsRow w.heap.size 62 6 v1 (k + 1) ((xs.take (k + 1)).flatMap encE)) := by show World.ownsRow _ _ _ _ _ _ _; rw [rows_snoc encE xs hlt]; exact hown
      have H2 : Hid (Below w.heap.size w w1) := by
        have h8 := HB.out
        have h9 := h8.size
        exact below_own (by repeat' (first | with_reducible exact Below.refl _ _ | with_reducible assumption | with_reducible apply below_grews | with_reducible apply Below.drew | with_reducible apply Below.alloc | with_reducible apply Below.setCell | (simp [size_grew, -Nat.not_le, -Nat.not_lt] <;> omega))) hg (own_base HO.out)
      clear hown hg HO HB
      go_wp2
      go_roundw
      case rel => exact ⟨k + 1, by omega, by go_num, H1, H2⟩
      case measure => first | (simp [intOf]; done) | (simp [intOf]; omega)
    · obtain rfl : k = xs.length := by omega
      go_wp2
      go_ret
      have h7 := HO.out
      rw [List.take_length] at h7
      exact ⟨_, rfl, h7, HB.out⟩
end Go.Proofs.YtjmnnkhdadoehaaGreat
