/- slices.Backward over entries: its closure's contract. -/
import Derived.Test.YtjmnnkhdadoehaaGreatYAbs8
import Derived.Test.YtjmnnkhdadoehaaGreatYWalkA
import Derived.Test.YtjmnnkhdadoehaaGreatYSpec
import Derived.Shelf.RegionOpen
import Derived.OwnWalkIn
import Derived.TacticsInMore
import Derived.LoopNIn
import Derived.LoopIn
namespace Go.Proofs.YtjmnnkhdadoehaaGreat
set_option linter.unusedSimpArgs false
set_option linter.unusedVariables false
open Go Go.RowKit Go.Shelf
attribute [local go_sem] Oper.semAt_some
def backs (xs : List Ent) (k : Nat) : List (Nat × Ent) := (List.range k).map fun j => (xs.length - 1 - j, nth xs (xs.length - 1 - j))
theorem backs_succ (xs : List Ent) (k : Nat) : backs xs (k + 1) = backs xs k ++ [(xs.length - 1 - k, nth xs (xs.length - 1 - k))] := by simp [backs, List.range_succ]
theorem backs_length (xs : List Ent) (k : Nat) : (backs xs k).length = k := by simp [backs]
set_option maxRecDepth 100000 in
set_option maxHeartbeats 4000000 in
theorem back1 (K : Know) (xs : List Ent) (Bs : Nat) (A : Option Addr) (cap : Nat) (hB : K Bs 0 = some (.slice A xs.length cap)) (hr : Rd K 6 A (xs.map encE)) (l : Nat) (J Jx : List (Nat × Ent) → World → Prop)
    (hY : ∀ pre x W, J pre W → pre.length < xs.length → YieldAt Fence.wide 1 Tryz.prog l #[.int .i64 (x.1 : Nat), .agg #[.int .u64 x.2.w.v.x, .int .u64 x.2.w.v.y, .int .u64 x.2.w.m.x, .int .u64 x.2.w.m.y, .int .i64 x.2.len, .int .i64 x.2.act]] W fun e W' =>
      (e = .returned (.bool true) ∧ J (pre ++ [x]) W' ∧ KpK K W W') ∨ (e = .returned (.bool false) ∧ Jx (pre ++ [x]) W'))
    (W : World) (hok : K.ok W) (h0 : J [] W) :
    CallsIn Fence.wide 2 Tryz.prog 79 #[.func (.yield l) #[] #[], .pointer (some ⟨Bs, 0, none⟩)] W fun e W' => (∃ v, e = .returned v) ∧
      ((∃ ys, ys = backs xs xs.length ∧ J ys W') ∨ (∃ pre, (∃ k, k ≤ xs.length ∧ pre = backs xs k) ∧ Jx pre W')) := by
  have hlen : xs.length ≤ 9223372036854775807 := by simpa using hr.1
  refine callsIn_of_wp Tryz.func79 rfl trivial ?_ rfl
  simp only [Tryz.ntmps79, List.size_toArray, List.length_cons, List.length_nil, Nat.reduceAdd, Nat.reduceSub, Array.replicate_succ, Array.replicate_zero, List.push_toArray, List.append_toArray, List.nil_append, List.cons_append]
  have hBs := hok Bs 0 _ hB
  gi_wp2
  gi_loopw [3] (fun i wr => ∃ k : Nat, k ≤ xs.length ∧ i = .int .i64 ((xs.length : Int) - 1 - k) ∧ J (backs xs k) wr ∧ K.ok wr)
    (fun i _ => (intOf i + 1).toNat)
  case atStart => exact ⟨0, Nat.zero_le _, by simp, h0, hok⟩
  case round =>
    obtain ⟨k, hk, rfl, hJs, hokr⟩ := hrel
    have hBr := hokr Bs 0 _ hB
    by_cases hlt : k < xs.length
    · have hj : xs.length - 1 - k < xs.length := by omega
      have hji : (xs.length : Int) - 1 - k = ((xs.length - 1 - k : Nat) : Int) := by omega
      rw [hji]
      generalize hjj : xs.length - 1 - k = j at hj hji ⊢
      obtain ⟨_, _, b, off, rfl, hc⟩ := hr.2 j (encE xs[j]) (by simp [hj])
      have q0 : wr.cell? ⟨b, off + j * 6, none⟩ = some (.int .u64 xs[j].w.v.x) := by have := hokr _ _ _ (hc 0 _ rfl); simpa using this
      have q1 : wr.cell? ⟨b, off + j * 6 + 1, none⟩ = some (.int .u64 xs[j].w.v.y) := hokr _ _ _ (hc 1 _ rfl)
      have q2 : wr.cell? ⟨b, off + j * 6 + 2, none⟩ = some (.int .u64 xs[j].w.m.x) := hokr _ _ _ (hc 2 _ rfl)
      have q3 : wr.cell? ⟨b, off + j * 6 + 3, none⟩ = some (.int .u64 xs[j].w.m.y) := hokr _ _ _ (hc 3 _ rfl)
      have q4 : wr.cell? ⟨b, off + j * 6 + 4, none⟩ = some (.int .i64 xs[j].len) := hokr _ _ _ (hc 4 _ rfl)
      have q5 : wr.cell? ⟨b, off + j * 6 + 5, none⟩ = some (.int .i64 xs[j].act) := hokr _ _ _ (hc 5 _ rfl)
      have hn : nth xs (xs.length - 1 - k) = xs[j] := by rw [hjj]; exact nth_at xs hj
      obtain ⟨fn, tmps, assign, body, hy, hR⟩ := hY _ (j, xs[j]) wr hJs (by rw [backs_length]; exact hlt)
      dsimp only at hy
      gi_wp2
      refine hR.mono ?_
      have hstep : backs xs (k + 1) = backs xs k ++ [(j, xs[j])] := by rw [backs_succ, hjj, nth_at xs hj]
      rintro e W3 (⟨rfl, hJ3, hk3⟩ | ⟨rfl, hJx3⟩)
      · have hokr3 : K.ok W3 := fun b' o' u' hu => hk3 b' o' u' hu (hokr b' o' u' hu)
        have hwr : IntKind.wrap .i64 ((j : Int) - 1) = (j : Int) - 1 := IntWalk.i64_in _ (by omega)
        gi_wp2
        go_roundw
        case rel => exact ⟨k + 1, by omega, by go_num, by rw [hstep]; exact hJ3, hokr3⟩
        case measure => first | (simp [intOf]; done) | (simp [intOf]; omega)
      · gi_wp2
        refine bodyPost_ret (results_none rfl _ _ _) rfl ?_
        exact ⟨⟨_, rfl⟩, .inr ⟨_, ⟨k + 1, by omega, hstep.symm⟩, hJx3⟩⟩
    · obtain rfl : k = xs.length := by omega
      rw [show (xs.length : Int) - 1 - (xs.length : Int) = -1 by omega]
      gi_wp2
      go_end0
      exact ⟨⟨_, rfl⟩, .inl ⟨_, rfl, hJs⟩⟩
def BackIs (xs : List Ent) (K : Know) (c : Value) : Prop := ∃ Bs A cap, c = .func (.func 79) #[] #[.pointer (some ⟨Bs, 0, none⟩)] ∧ K Bs 0 = some (.slice A xs.length cap) ∧ Rd K 6 A (xs.map encE)
theorem back_stops {K : Know} {xs : List Ent} {Bs : Nat} {A : Option Addr} {cap : Nat} (hB : K Bs 0 = some (.slice A xs.length cap)) (hr : Rd K 6 A (xs.map encE)) {w : World} (hok : K.ok w) :
    SeqStopsK Fence.wide 2 Tryz.prog 79 #[.pointer (some ⟨Bs, 0, none⟩)] (fun x : Nat × Ent => #[.int .i64 (x.1 : Nat), .agg #[.int .u64 x.2.w.v.x, .int .u64 x.2.w.v.y, .int .u64 x.2.w.m.x, .int .u64 x.2.w.m.y, .int .i64 x.2.len, .int .i64 x.2.act]]) (KpK K) (fun ys => ys = backs xs xs.length) (fun pre => ∃ k, k ≤ xs.length ∧ pre = backs xs k) xs.length w :=
  fun l J Jx W hW _ _ hY h0 => back1 K xs Bs A cap hB hr l J Jx hY W (Know.below hok hW) h0
theorem g_Backward (xs : List Ent) : Good Tryz.prog 42 [.sl 6 (xs.map encE)] (.pr (BackIs xs)) := by
  intro K w cargs hok hlen hrep
  match cargs, hlen with
  | [c], _ =>
    obtain ⟨A, cap, rfl, h1, h2, h3⟩ := hrep 0 _ c rfl rfl
    simp only [List.length_map] at h1 ⊢
    have hb : Below w.heap.size w (w.alloc (.cells #[.slice A xs.length cap] 28)) := (Below.refl _ _).alloc (Nat.le_refl _) _
    have hcall : Calls Tryz.prog 42 #[.slice A xs.length cap] w fun e w' => e = .returned (.func (.func 79) #[] #[.pointer (some ⟨w.heap.size, 0, none⟩)]) ∧ w' = w.alloc (.cells #[.slice A xs.length cap] 28) := by
      go_enter Tryz.func42, Tryz.ntmps42
      go_wp2
      refine bodyPost_ret (v := .func (.func 79) #[] #[.pointer (some ⟨w.heap.size, 0, none⟩)]) ?_ rfl ⟨rfl, rfl⟩
      simp [results, Tryz.f42, go_sem]
    refine hcall.mono ?_
    rintro e w' ⟨rfl, rfl⟩
    refine ⟨_, K.plus w.heap.size (fun o => #[Value.slice A xs.length cap][o]?), rfl, hb, Know.plus_le hok _, Know.plus_ok hok _ _, Know.plus_new _, fun _ => undef, ?_, fun r e k xs h => (by rcases h with h | ⟨_, h, _⟩ <;> cases h), fun r e k xs r' e' k' xs' g h => (by rcases h with h | ⟨_, h, _⟩ <;> cases h)⟩
    intro K' hK'
    refine ⟨w.heap.size, A, cap, rfl, hK' _ _ _ (by rw [Know.plus_at]; rfl), (h3.mono (Know.plus_le hok _)).mono hK'⟩
end Go.Proofs.YtjmnnkhdadoehaaGreat
