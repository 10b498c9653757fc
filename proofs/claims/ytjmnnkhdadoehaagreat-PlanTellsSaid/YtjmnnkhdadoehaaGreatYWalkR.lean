/- What single calls do: the reference's bits. -/
import Derived.Test.YtjmnnkhdadoehaaGreatYWalkA
import Derived.Test.YtjmnnkhdadoehaaGreatYSpec
import Derived.Test.YtjmnnkhdadoehaaGreatYRead
import Derived.Deep.OwnRows
import Derived.Lib.Hide
namespace Go.Proofs.YtjmnnkhdadoehaaGreat
open Go.RowKit
set_option linter.unusedSimpArgs false
set_option linter.unusedVariables false
attribute [local go_sem high] eql_25 neq_25 eql_44 neq_62 eql_48 eql_50
attribute [local go_sem] eqg_25 eqg_62 eqg_48 eqg_50 cell_grew frozen_grew size_grew grew_grew lt_addk Instr.field asAgg lt_gi_k
set_option maxRecDepth 100000 in
set_option maxHeartbeats 4000000 in
theorem c_Bits (a0 a1 : Int) (ha : A2.ok ⟨a0, a1⟩) (w : World) :
    Calls Tryz.prog 121 #[.agg #[.int .u64 a0, .int .u64 a1]] w fun e w' => ∃ b, e = .returned (.slice (some ⟨b, 0, none⟩) 128 128) ∧ w.heap.size ≤ b ∧ w'.rowIs b 4 128 (fun i => .bool (abit ⟨a0, a1⟩ i)) ∧ Below w.heap.size w w' := by
  have hmk : ∀ W : World, (Instr.makeSlice 172 (.int .i64 128) (.int .i64 128)).run Tryz.prog W = .ok (.slice (some ⟨W.heap.size, 0, none⟩) 128 128) (W.alloc (.cells (madeCells #[.bool false] 128) 4)) := fun W =>
    run_make_row' (P := Tryz.prog) 172 4 (.bool false) 1 (by kernel_rfl) (by kernel_rfl) rfl .i64 .i64 128 (by omega) (by omega) W
  go_enter Tryz.func121, Tryz.ntmps121
  go_wp2
  refine wp_loop_rounds 3 ?_
  rw [rounds_succ]
  go_wp2
  go_loopw [5, 6] (fun v5 v6 wr => ∃ (m : Nat) (n : Int) (c : Array Value), m ≤ 64 ∧ 0 ≤ n ∧ U n ∧ v5 = .int .u64 n ∧ v6 = .int .i64 ((m : Int) - 1) ∧ wr = (w.alloc (.cells #[.int .u64 a0, .int .u64 a1] 24)).alloc (.cells c 4) ∧ Hid (n = a0 / 2 ^ (64 - m)) ∧ Hid (c.size = 128 ∧ ∀ i, i < 128 → c[i]? = some (.bool (bitsRow ⟨a0, a1⟩ 0 m i)))) (fun _ i _ => (intOf i + 1).toNat)
  case atStart => exact ⟨64, a0, _, by omega, ha.1.1, ha.1, rfl, by go_num, rfl, by show _ = _; simp, ⟨by simp [size_madeCells], fun i hi => by rw [bitsRow_start _ _ hi]; simp [madeCells, hi, Nat.mod_one]⟩⟩
  case round =>
    obtain ⟨m, n, c, hm, hn, hU, rfl, rfl, rfl, H1, H2⟩ := hrel
    cases m with
    | zero =>
      go_wp2
      rw [rounds_succ]
      go_wp2
      go_loopw [5, 6] (fun v5 v6 wr => ∃ (m : Nat) (n : Int) (c : Array Value), m ≤ 64 ∧ 0 ≤ n ∧ U n ∧ v5 = .int .u64 n ∧ v6 = .int .i64 ((m : Int) - 1) ∧ wr = (w.alloc (.cells #[.int .u64 a0, .int .u64 a1] 24)).alloc (.cells c 4) ∧ Hid (n = a1 / 2 ^ (64 - m)) ∧ Hid (c.size = 128 ∧ ∀ i, i < 128 → c[i]? = some (.bool (bitsRow ⟨a0, a1⟩ 1 m i)))) (fun _ i _ => (intOf i + 1).toNat)
      case atStart => exact ⟨64, a1, c, by omega, ha.2.1, ha.2, rfl, by go_num, rfl, by show _ = _; simp, ⟨H2.out.1, fun i hi => by rw [bitsRow_next _ _ hi]; exact H2.out.2 i hi⟩⟩
      case round =>
        obtain ⟨m, n, c, hm, hn, hU, rfl, rfl, rfl, H1, H2⟩ := hrel
        cases m with
        | zero =>
          go_wp2
          rw [rounds_succ]
          go_wp2
          go_ret
          exact ⟨_, rfl, by omega, ⟨c, at_alloc' _ _ _ (by simp), H2.out.1, fun i hi => by rw [H2.out.2 i hi, bitsRow_end _ _ hi]⟩, (((Below.refl _ _).alloc (by simp) _).alloc (by simp) _)⟩
        | succ m =>
          have hm' : m < 64 := by omega
          have K := bits_round H1.out hm'
          have R := bits_row Value.bool H2.out.1 H2.out.2 hm' (by omega) ((K.2).trans (abit_hi ⟨a0, a1⟩ m hm').symm)
          have K2 : Hid (n / 2 = a1 / 2 ^ (64 - m)) := K.1
          have R2 := Lib.hid R
          clear K R
          have hU2 : Hid (U (n / 2) ∧ IntKind.u64.wrap (n.tdiv 2) = n / 2) := u_half hU
          obtain ⟨o, ho⟩ : ∃ o, c[64 + m]? = some o := ⟨_, H2.out.2 (64 + m) (by omega)⟩
          rw [show ((m + 1 : Nat) : Int) - 1 = (m : Int) from by omega]
          have hn2 : 0 ≤ n / 2 := by omega
          go_wp2
          all_goals
            go_roundw
            case rel => exact ⟨m, n / 2, _, by omega, hn2, hU2.out.1, by rw [hU2.out.2], rfl, rfl, K2, R2⟩
            case measure => first | (simp [intOf]; done) | (simp [intOf]; omega)

    | succ m =>
      have hm' : m < 64 := by omega
      have K := bits_round H1.out hm'
      have R := bits_row Value.bool H2.out.1 H2.out.2 hm' (by omega) ((K.2).trans (abit_lo ⟨a0, a1⟩ m hm').symm)
      rw [show 64 * 0 + m = m from by omega] at R
      have K2 : Hid (n / 2 = a0 / 2 ^ (64 - m)) := K.1
      have R2 := Lib.hid R
      clear K R
      have hU2 : Hid (U (n / 2) ∧ IntKind.u64.wrap (n.tdiv 2) = n / 2) := u_half hU
      obtain ⟨o, ho⟩ : ∃ o, c[m]? = some o := ⟨_, H2.out.2 (m) (by omega)⟩
      rw [show ((m + 1 : Nat) : Int) - 1 = (m : Int) from by omega]
      have hn2 : 0 ≤ n / 2 := by omega
      go_wp2
      all_goals
        go_roundw
        case rel => exact ⟨m, n / 2, _, by omega, hn2, hU2.out.1, by rw [hU2.out.2], rfl, rfl, K2, R2⟩
        case measure => first | (simp [intOf]; done) | (simp [intOf]; omega)
end Go.Proofs.YtjmnnkhdadoehaaGreat

/- What single calls do: the reference's words. -/
namespace Go.Proofs.YtjmnnkhdadoehaaGreat
set_option linter.unusedSimpArgs false
set_option linter.unusedVariables false
open Go.RowKit
attribute [local go_sem high] eql_25 neq_25 eql_44 neq_62 eql_48 eql_50
attribute [local go_sem] eqg_25 eqg_62 eqg_48 eqg_50 cell_grew frozen_grew size_grew grew_grew lt_addk Instr.field asAgg lt_gi_k
end Go.Proofs.YtjmnnkhdadoehaaGreat

/- What single calls do: the reference's entries. -/
namespace Go.Proofs.YtjmnnkhdadoehaaGreat
set_option linter.unusedSimpArgs false
set_option linter.unusedVariables false
open Go.RowKit
attribute [local irreducible] rMatch rMeet
attribute [local go_sem high] eql_25 neq_25 eql_44 neq_62 eql_48 eql_50
attribute [local go_sem] eqg_25 eqg_62 eqg_48 eqg_50 cell_grew frozen_grew size_grew grew_grew lt_addk Instr.field asAgg lt_gi_k
end Go.Proofs.YtjmnnkhdadoehaaGreat

/- What single calls do: rows of entries. -/
namespace Go.Proofs.YtjmnnkhdadoehaaGreat
open Go.RowKit
set_option linter.unusedSimpArgs false
set_option linter.unusedVariables false
attribute [local go_sem high] eql_25 neq_25 eql_44 neq_62 eql_48 eql_50
attribute [local go_sem] eqg_25 eqg_62 eqg_48 eqg_50 cell_grew frozen_grew size_grew grew_grew lt_addk Instr.field asAgg lt_gi_k
end Go.Proofs.YtjmnnkhdadoehaaGreat

/- What single calls do: rows of entries, by a function. -/
namespace Go.Proofs.YtjmnnkhdadoehaaGreat
set_option linter.unusedSimpArgs false
set_option linter.unusedVariables false
open Go.RowKit
attribute [local go_sem high] eql_25 neq_25 eql_44 neq_62 eql_48 eql_50
attribute [local go_sem] eqg_25 eqg_62 eqg_48 eqg_50 cell_grew frozen_grew size_grew grew_grew lt_addk Instr.field asAgg lt_gi_k
set_option maxRecDepth 100000 in
set_option maxHeartbeats 4000000 in
theorem c_IndexFuncE (A : Option Addr) (c : Nat) (xs : List Ent) (g : Nat) (lb : Array Value) (p : Ent → Bool) (w : World) (hr : Reads encE 6 w A xs)
    (eg : ∀ args w, (callFunc g args).run Tryz.prog w = .ok (.enter g args) w)
    (hp : ∀ (W : World) (x : Ent), Below w.heap.size w W → Calls Tryz.prog g (#[.agg #[.int .u64 x.w.v.x, .int .u64 x.w.v.y, .int .u64 x.w.m.x, .int .u64 x.w.m.y, .int .i64 x.len, .int .i64 x.act]] ++ lb) W fun e w' => e = .returned (.bool (p x)) ∧ Below W.heap.size W w') :
    Calls Tryz.prog 77 #[.slice A xs.length c, .func (.func g) #[] lb] w fun e w' => e = .returned (.int .i64 (firstAt p xs)) ∧ Below w.heap.size w w' := by
  have hlen := hr.1
  go_enter Tryz.func77, Tryz.ntmps77
  go_wp2
  go_loopw [8] (fun v8 wr => ∃ k : Nat, k ≤ xs.length ∧ v8 = .int .i64 k ∧ Hid (∀ (i : Nat) (x : Ent), i < k → xs[i]? = some x → p x = false) ∧ ∃ q : Ext, wr = grew w q) (fun i _ => xs.length - (intOf i).toNat)
  case atStart => exact ⟨0, Nat.zero_le _, rfl, (fun i x hi => by omega), ⟨w.drawn, #[]⟩, by simp [grew]⟩
  case round =>
    obtain ⟨k, hk, rfl, H, q, rfl⟩ := hrel
    by_cases hlt : k < xs.length
    · obtain ⟨b, off, rfl, hb, h0, h1, h2, h3, h4, h5⟩ := hr.atE hlt
      have hq := hp (grew w q) xs[k] (grew_below w q)
      clear hp
      go_wp2_with fail
      refine hq.mono ?_
      rintro e w' ⟨rfl, hb'⟩
      obtain ⟨q', rfl⟩ := below_grew hb'
      clear hb' hq
      rw [grew_grew]
      cases hpx : p xs[k] with
      | true =>
        go_wp2
        refine bodyPost_ret (v := .int .i64 (firstAt p xs)) ?_ rfl ⟨rfl, ?_⟩
        · rw [firstAt_hit p xs k hlt H.out hpx]
          simp [results, Tryz.f77, go_sem]
        · repeat' (first | with_reducible exact Below.refl _ _ | with_reducible assumption | with_reducible apply below_grews | with_reducible apply Below.drew | with_reducible apply Below.alloc | with_reducible apply Below.setCell | (simp [size_grew, -Nat.not_le, -Nat.not_lt] <;> omega))
      | false =>
        have H2 := Lib.hid (none_step H.out hlt hpx)
        go_wp2
        go_roundw
        case rel => exact ⟨k + 1, by omega, by go_num, H2, _, rfl⟩
        case measure => first | (simp [intOf]; done) | (simp [intOf]; omega)
    · obtain rfl : k = xs.length := by omega
      go_wp2
      refine bodyPost_ret (v := .int .i64 (firstAt p xs)) ?_ rfl ⟨rfl, ?_⟩
      · rw [firstAt_none p xs (fun i x hx => H.out i x (List.getElem?_eq_some_iff.1 hx).1 hx)]
        simp [results, Tryz.f77, go_sem]
      · repeat' (first | with_reducible exact Below.refl _ _ | with_reducible assumption | with_reducible apply below_grews | with_reducible apply Below.drew | with_reducible apply Below.alloc | with_reducible apply Below.setCell | (simp [size_grew, -Nat.not_le, -Nat.not_lt] <;> omega))
set_option maxRecDepth 100000 in
set_option maxHeartbeats 4000000 in
theorem c_ContainsFuncE (A : Option Addr) (c : Nat) (xs : List Ent) (g : Nat) (lb : Array Value) (p : Ent → Bool) (w : World) (hr : Reads encE 6 w A xs)
    (eg : ∀ args w, (callFunc g args).run Tryz.prog w = .ok (.enter g args) w)
    (hp : ∀ (W : World) (x : Ent), Below w.heap.size w W → Calls Tryz.prog g (#[.agg #[.int .u64 x.w.v.x, .int .u64 x.w.v.y, .int .u64 x.w.m.x, .int .u64 x.w.m.y, .int .i64 x.len, .int .i64 x.act]] ++ lb) W fun e w' => e = .returned (.bool (p x)) ∧ Below W.heap.size W w') :
    Calls Tryz.prog 139 #[.slice A xs.length c, .func (.func g) #[] lb] w fun e w' => e = .returned (.bool (xs.any p)) ∧ Below w.heap.size w w' := by
  have hc := c_IndexFuncE A c xs g lb p w hr eg hp
  clear hp hr eg
  go_enter Tryz.func139, Tryz.ntmps139
  go_wp2_with fail
  refine hc.mono ?_
  rintro e w' ⟨rfl, hb⟩
  go_wp2
  refine bodyPost_ret (v := .bool (xs.any p)) ?_ rfl ⟨rfl, hb⟩
  rw [← firstAt_any]
  simp [results, Tryz.f139, go_sem]
set_option maxRecDepth 100000 in
set_option maxHeartbeats 4000000 in
theorem c_Ordered1 (x y0 : Ent) (b : Nat) (w : World) (hb : b < w.heap.size) (q0 : w.cell? ⟨b, 0, none⟩ = some (.int .u64 y0.w.v.x)) (q1 : w.cell? ⟨b, 1, none⟩ = some (.int .u64 y0.w.v.y)) (q2 : w.cell? ⟨b, 2, none⟩ = some (.int .u64 y0.w.m.x))
    (q3 : w.cell? ⟨b, 3, none⟩ = some (.int .u64 y0.w.m.y)) (q4 : w.cell? ⟨b, 4, none⟩ = some (.int .i64 y0.len)) (q5 : w.cell? ⟨b, 5, none⟩ = some (.int .i64 y0.act)) :
    Calls Tryz.prog 140 #[.agg #[.int .u64 x.w.v.x, .int .u64 x.w.v.y, .int .u64 x.w.m.x, .int .u64 x.w.m.y, .int .i64 x.len, .int .i64 x.act], .pointer (some ⟨b, 0, none⟩)] w fun e w' => e = .returned (.bool (eAbove y0 x)) ∧ Below w.heap.size w w' := by
  go_enter Tryz.func140, Tryz.ntmps140
  go_wp2_with (first | (go_at_call 141; refine (c_Above _ _ _ _ _ _ _ _ _ _ _ _ _).mono ?_; rintro e w' ⟨rfl, hb⟩; obtain ⟨p, rfl⟩ := below_grew hb; clear hb))
  refine bodyPost_ret (v := .bool (eAbove y0 x)) ?_ rfl ⟨rfl, ?_⟩
  · simp [results, Tryz.f140, go_sem]
  · repeat' (first | with_reducible exact Below.refl _ _ | with_reducible assumption | with_reducible apply below_grews | with_reducible apply Below.drew | with_reducible apply Below.alloc | with_reducible apply Below.setCell | (simp [size_grew, -Nat.not_le, -Nat.not_lt] <;> omega))
end Go.Proofs.YtjmnnkhdadoehaaGreat

/- What single calls do: the reference's best one. -/
namespace Go.Proofs.YtjmnnkhdadoehaaGreat
set_option linter.unusedSimpArgs false
set_option linter.unusedVariables false
open Go.RowKit
attribute [local irreducible] rMatch rMeet
attribute [local go_sem high] eql_25 neq_25 eql_44 neq_62 eql_48 eql_50
attribute [local go_sem] eqg_25 eqg_62 eqg_48 eqg_50 cell_grew frozen_grew size_grew grew_grew lt_addk Instr.field asAgg lt_gi_k
end Go.Proofs.YtjmnnkhdadoehaaGreat
