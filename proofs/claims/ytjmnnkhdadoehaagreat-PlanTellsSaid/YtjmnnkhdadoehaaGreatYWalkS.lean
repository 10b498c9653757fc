/- What single calls do: the reference's sorting. -/
import Derived.Test.YtjmnnkhdadoehaaGreatYWalkI
import Derived.Test.YtjmnnkhdadoehaaGreatYSpecH
import Derived.Test.YtjmnnkhdadoehaaGreatYAppB
import Derived.Test.YtjmnnkhdadoehaaGreatYOwn
namespace Go.Proofs.YtjmnnkhdadoehaaGreat
set_option linter.unusedSimpArgs false
set_option linter.unusedVariables false
open Go.RowKit
attribute [local irreducible] eCmp rCmp
attribute [local go_sem high] eql_25 neq_25 eql_44 neq_62 eql_48 eql_50
attribute [local go_sem] eqg_25 eqg_62 eqg_48 eqg_50 cell_grew frozen_grew size_grew grew_grew lt_addk Instr.field asAgg lt_gi_k
theorem Reads.drop {α : Type} {enc : α → List Value} {k : Nat} {w : World} {b off : Nat} {xs : List α} (h : Reads enc k w (some ⟨b, off, none⟩) xs) (n : Nat) : Reads enc k w (some ⟨b, off + n * k, none⟩) (xs.drop n) :=
  ⟨Nat.le_trans (by simp) h.1, fun i x hx => by
    rw [List.getElem?_drop] at hx
    obtain ⟨b', off', e, hl, hc⟩ := h.2 (n + i) x hx
    injection e with e
    injection e with e1 e2
    subst e1 e2
    exact ⟨b, off + n * k, rfl, hl, fun j u hu => by have := hc j u hu; rwa [Nat.add_mul, ← Nat.add_assoc] at this⟩⟩
set_option maxRecDepth 100000 in
set_option maxHeartbeats 8000000 in
theorem c_rSort (A : Option Addr) (c : Nat) (xs : List Ent) (hok : ∀ x ∈ xs, x.w.ok) (w : World) (hr : Reads encE 6 w A xs) (hm : xs.length ≤ 40) :
    Calls Tryz.prog 17 #[.slice A xs.length c] w fun e w' => ∃ v, e = .returned v ∧ w'.ownsRow w.heap.size 62 6 v xs.length ((sortE xs).flatMap encE) ∧ Below w.heap.size w w' := by
  have Hok := Lib.hid hok
  clear hok
  go_enter Tryz.func17, Tryz.ntmps17
  go_wp2
  go_loopw [3, 4] (fun v3 v4 wr => ∃ k : Nat, k ≤ xs.length ∧ v4 = .int .i64 k ∧ Hid (wr.ownsRow w.heap.size 62 6 v3 k ((rSort (xs.take k)).flatMap encE)) ∧ Below w.heap.size w wr) (fun _ i _ => xs.length - (intOf i).toNat)
  case atStart => exact ⟨0, Nat.zero_le _, rfl, World.ownsRow_nil _ _ _ _, Below.refl _ _⟩
  case round =>
    obtain ⟨k, hk, rfl, HO, hB⟩ := hrel
    obtain ⟨B, d, rfl, hcd, _⟩ := own_form HO.out
    have hyl : (rSort (xs.take k)).length = k := by rw [rSort_length, List.length_take]; omega
    have hR : Reads encE 6 wr B (rSort (xs.take k)) := (Reads.of_own (enc := encE) (k := 6) (e := 62) (base := w.heap.size) (n := k) (c := d) (fun _ => rfl) (by rw [hyl]; exact HO.out)).2
    have hyo : ∀ y ∈ rSort (xs.take k), y.w.ok := by
      intro y hy
      rw [rSort_sortE, sortE_mem] at hy
      exact Hok.out y (List.mem_of_mem_take hy)
    obtain ⟨ys, hys⟩ : ∃ ys, rSort (xs.take k) = ys := ⟨_, rfl⟩
    rw [hys] at HO hyl hR hyo
    have Hyo := Lib.hid hyo
    have Hys := Lib.hid hys
    clear hyo hys
    by_cases hlt : k < xs.length
    · go_wp2
      go_loopw [5] (fun v5 wq => ∃ j : Nat, j ≤ k ∧ v5 = .int .i64 j ∧ Hid (∀ (i : Nat) (y : Ent), i < j → ys[i]? = some y → eLe y xs[k] = true) ∧ ∃ q : Ext, wq = grew wr q) (fun i _ => k - (intOf i).toNat)
      case atStart => exact ⟨0, Nat.zero_le _, rfl, (fun i y hi => by omega), ⟨wr.drawn, #[]⟩, by simp [grew]⟩
      case round =>
        obtain ⟨j, hj, rfl, H1, q, rfl⟩ := hrel
        obtain ⟨bl, off, rfl, hbl, h0, h1, h2, h3, h4, h5⟩ := (hr.below hB).atE hlt
        have o1 : A2.ok ⟨xs[k].w.v.x, xs[k].w.v.y⟩ := (Hok.out _ (List.getElem_mem hlt)).1
        have o2 : A2.ok ⟨xs[k].w.m.x, xs[k].w.m.y⟩ := (Hok.out _ (List.getElem_mem hlt)).2
        by_cases hjk : j < k
        · have hjy : j < ys.length := by omega
          obtain ⟨g, goff, rfl, hg, g0, g1, g2, g3, g4, g5⟩ := hR.atE hjy
          have o3 : A2.ok ⟨ys[j].w.v.x, ys[j].w.v.y⟩ := (Hyo.out _ (List.getElem_mem hjy)).1
          have o4 : A2.ok ⟨ys[j].w.m.x, ys[j].w.m.y⟩ := (Hyo.out _ (List.getElem_mem hjy)).2
          have hc := fun W => c_r5Compare ys[j].w.v.x ys[j].w.v.y ys[j].w.m.x ys[j].w.m.y ys[j].len ys[j].act xs[k].w.v.x xs[k].w.v.y xs[k].w.m.x xs[k].w.m.y xs[k].len xs[k].act o3 o4 o1 o2 W
          change ∀ W, Calls _ _ _ W fun e w' => e = .returned (.int .i64 (rCmp ys[j] xs[k])) ∧ Below W.heap.size W w' at hc
          rw [← eCmp_rCmp] at hc
          have hle : eLe ys[j] xs[k] = decide (eCmp ys[j] xs[k] ≤ 0) := rfl
          generalize eCmp ys[j] xs[k] = n at hc hle
          have HC := Lib.hid hc
          clear hc o1 o2 o3 o4
          by_cases hn : n ≤ 0
          · have H2 : Hid (∀ (i : Nat) (y : Ent), i < j + 1 → ys[i]? = some y → eLe y xs[k] = true) := by
              intro i y hi hy
              by_cases e : i = j
              · subst e
                rw [List.getElem?_eq_getElem hjy, Option.some.injEq] at hy
                rw [← hy, hle]; simp [hn]
              · exact H1.out i y (by omega) hy
            clear hle
            go_wp2_with (first | (apply Exists.intro; refine ⟨fun (_ : Ext) => ?_, ?_⟩; · (go_at_call 46; exact calls_later (HC.out _))) | (go_at_call 46; refine (c_r5Compare _ _ _ _ _ _ _ _ _ _ _ _ (by assumption) (by assumption) (by assumption) (by assumption) _).mono ?_; rintro e w' ⟨rfl, hb⟩; obtain ⟨p, rfl⟩ := below_grew hb; clear hb) | (refine wp_region_mix (id := 6) 15 [(0, true), (1, true), (2, true), (3, true), (4, true), (5, true), (6, true), (7, true), (8, true), (9, true), (10, true), (11, true), (12, true), (13, true), (14, true)] (by kernel_rfl) (by kernel_rfl) ?_) | (refine wp_region_plan (id := 8) 9 (.quiet 0 (.quiet 1 (.quiet 2 (.quiet 3 (.quiet 5 (.quiet 6 (.quiet 7 (.loud 4 (.loud 8 .done))))))))) (by kernel_rfl) (by kernel_rfl) ?_) | (refine mix_quiet rfl (fun K hK => ?_); go_simp) | (apply Exists.intro; refine ⟨fun (_ : Ext) => ?_, ?_⟩; · (first | (go_at_call 46; exact calls_later (c_r5Compare _ _ _ _ _ _ _ _ _ _ _ _ (by assumption) (by assumption) (by assumption) (by assumption) _)))) | (refine mix_end (fun p => ?_); simp only [List.drop_succ_cons, List.drop_zero]) | (refine plan_quiet rfl (fun K hK => ?_); go_simp) | (refine plan_end (fun p => ?_); simp only [List.drop_succ_cons, List.drop_zero]) | (refine plan_fork ?_ ?_) | (refine plan_app (i := 8) rfl rfl ?_) | (refine plan_loud rfl (fun p K hK => ?_); go_simp; try ((with_reducible refine hK _ _ ?hkc ?_); (case hkc => refine below_grew ?_; (try simp only [grew_grew, Array.append_assoc]); repeat' (first | with_reducible exact Below.refl _ _ | with_reducible assumption | with_reducible exact below_more _ _ _ _ | (with_reducible refine below_app _ _ _ _ ?_ ?_; rotate_left; simp only [Array.append_assoc]; rfl) | with_reducible apply below_grews | with_reducible apply Below.drew | with_reducible apply Below.alloc | with_reducible apply Below.setCell | (simp [size_grew, -Nat.not_le, -Nat.not_lt] <;> omega))))))
            go_roundw
            case rel => exact ⟨j + 1, by omega, by go_num, H2, below_grew (by repeat' (first | with_reducible exact Below.refl _ _ | with_reducible assumption | with_reducible apply below_grews | with_reducible apply Below.drew | with_reducible apply Below.alloc | with_reducible apply Below.setCell | (simp [size_grew, -Nat.not_le, -Nat.not_lt] <;> omega)))⟩
            case measure => first | (simp [intOf]; done) | (simp [intOf]; omega)
          · have hp := place_spec ys xs[k] j (by omega) H1.out (fun y hy => by rw [List.getElem?_eq_getElem hjy, Option.some.injEq] at hy; rw [← hy, hle]; simp [hn])
            clear hle
            have hdj : ¬ d = j := by omega
            have HI : Hid (rSort (xs.take (k + 1)) = ys.take j ++ ([xs[k]] ++ (ys.drop j))) := by
              show rSort (xs.take (k + 1)) = _
              rw [rSort_take xs hlt, Hys.out]; unfold ins; rw [hp]; rfl
            clear Hys
            go_wp2_with (first
              | (apply Exists.intro; refine ⟨fun (_ : Ext) => ?_, ?_⟩; · (go_at_call 46; exact calls_later (HC.out _)))
              | (go_at_call 46; refine (c_r5Compare _ _ _ _ _ _ _ _ _ _ _ _ (by assumption) (by assumption) (by assumption) (by assumption) _).mono ?_; rintro e w' ⟨rfl, hb⟩; obtain ⟨p, rfl⟩ := below_grew hb; clear hb) | (refine wp_region_mix (id := 6) 15 [(0, true), (1, true), (2, true), (3, true), (4, true), (5, true), (6, true), (7, true), (8, true), (9, true), (10, true), (11, true), (12, true), (13, true), (14, true)] (by kernel_rfl) (by kernel_rfl) ?_) | (refine wp_region_plan (id := 8) 9 (.quiet 0 (.quiet 1 (.quiet 2 (.quiet 3 (.quiet 5 (.quiet 6 (.quiet 7 (.loud 4 (.loud 8 .done))))))))) (by kernel_rfl) (by kernel_rfl) ?_) | (refine mix_quiet rfl (fun K hK => ?_); go_simp) | (apply Exists.intro; refine ⟨fun (_ : Ext) => ?_, ?_⟩; · (first | (go_at_call 46; exact calls_later (c_r5Compare _ _ _ _ _ _ _ _ _ _ _ _ (by assumption) (by assumption) (by assumption) (by assumption) _)))) | (refine mix_end (fun p => ?_); simp only [List.drop_succ_cons, List.drop_zero]) | (refine plan_quiet rfl (fun K hK => ?_); go_simp) | (refine plan_end (fun p => ?_); simp only [List.drop_succ_cons, List.drop_zero]) | (refine plan_fork ?_ ?_) | (refine plan_loud (i := 4) rfl (fun p K hK => ?_); go_simp; try ((with_reducible refine hK _ _ ?hkc ?_); (case hkc => refine below_grew ?_; (try simp only [grew_grew, Array.append_assoc]); repeat' (first | with_reducible exact Below.refl _ _ | with_reducible assumption | with_reducible exact below_more _ _ _ _ | (with_reducible refine below_app _ _ _ _ ?_ ?_; rotate_left; simp only [Array.append_assoc]; rfl) | with_reducible apply below_grews | with_reducible apply Below.drew | with_reducible apply Below.alloc | with_reducible apply Below.setCell | (simp [size_grew, -Nat.not_le, -Nat.not_lt] <;> omega))))))
            refine plan_app (i := 8) rfl rfl ?_
            intro p1 K1 hK8
            refine wp_appR (enc := encE) (e := 62) (n := 1) wr.heap.size 6 48 zeroE (by kernel_rfl) (by kernel_rfl) rfl (by omega) (fun _ => rfl) oneCell_E rfl [xs[k]] rfl (ys.drop j) rfl (by rw [List.length_drop, hyl]) ?rda (fun h => (by cases h)) ?owa (by omega) ?baa (by omega) ?_
            case rda => exact (hR.drop j).below (by (try simp only [grew_grew, Array.append_assoc]); repeat' (first | with_reducible exact Below.refl _ _ | with_reducible assumption | with_reducible exact below_more _ _ _ _ | (with_reducible refine below_app _ _ _ _ ?_ ?_; rotate_left; simp only [Array.append_assoc]; rfl) | with_reducible apply below_grews | with_reducible apply Below.drew | with_reducible apply Below.alloc | with_reducible apply Below.setCell | (simp [size_grew, -Nat.not_le, -Nat.not_lt] <;> omega)))
            case owa =>
              refine own_grew (own_lit (k := 6) (fun _ => rfl) 62 wr.heap.size [xs[k]] ?nna ?bba rfl (by simp) rfl) _
              case nna => simp [size_grew]
              case bba => simp [size_grew, -Nat.not_le, -Nat.not_lt] <;> omega
            case baa => simp [size_grew, -Nat.not_le, -Nat.not_lt] <;> omega
            intro v1 w1 hown hg
            have hB1 : Below wr.heap.size wr w1 := below_own' (by (try simp only [grew_grew, Array.append_assoc]); repeat' (first | with_reducible exact Below.refl _ _ | with_reducible assumption | with_reducible exact below_more _ _ _ _ | (with_reducible refine below_app _ _ _ _ ?_ ?_; rotate_left; simp only [Array.append_assoc]; rfl) | with_reducible apply below_grews | with_reducible apply Below.drew | with_reducible apply Below.alloc | with_reducible apply Below.setCell | (simp [size_grew, -Nat.not_le, -Nat.not_lt] <;> omega))) (by simp [size_grew, -Nat.not_le, -Nat.not_lt] <;> omega) hg (by intro b hb; cases hb; simp [size_grew, -Nat.not_le, -Nat.not_lt] <;> omega)
            refine hK8 _ _ (ext_of_below2 (d := 0) ?hqa) ?_
            case hqa => exact below_own' (by (try simp only [grew_grew, Array.append_assoc]); repeat' (first | with_reducible exact Below.refl _ _ | with_reducible assumption | with_reducible exact below_more _ _ _ _ | (with_reducible refine below_app _ _ _ _ ?_ ?_; rotate_left; simp only [Array.append_assoc]; rfl) | with_reducible apply below_grews | with_reducible apply Below.drew | with_reducible apply Below.alloc | with_reducible apply Below.setCell | (simp [size_grew, -Nat.not_le, -Nat.not_lt] <;> omega))) (by simp [size_grew, -Nat.not_le, -Nat.not_lt] <;> omega) hg (by intro b hb; cases hb; simp [size_grew, -Nat.not_le, -Nat.not_lt] <;> omega)
            clear hK8 hg
            obtain ⟨A1, c1, rfl, hc1, hc1'⟩ := own_form hown
            have hA1 : A1 = none → c1 = 0 := own_nil hown
            have hl1 : ([xs[k]] ++ (ys.drop j)).length = 1 + (k - j) := by simp; try omega
            have hR1 : Reads encE 6 w1 A1 ([xs[k]] ++ (ys.drop j)) := (Reads.of_own (enc := encE) (k := 6) (e := 62) (base := wr.heap.size) (n := 1 + (k - j)) (c := c1) (fun _ => rfl) (by rw [hl1]; simpa using hown)).2
            have hs1 := hB1.size
            clear hown
            go_simp
            refine plan_end (fun p3 => ?_)
            try simp only [List.drop_succ_cons, List.drop_zero]
            go_wp2_with (first
              | (at_builtin; refine app_row (enc := encE) (e := 62) (n := 0) wr.heap.size 6 48 zeroE (by kernel_rfl) (by kernel_rfl) rfl (by omega) (fun _ => rfl) oneCell_E rfl rfl [] rfl (ys.take j) rfl (by rw [List.length_take]; omega) ?rea (fun h => (by cases h)) ?ofa (by omega) ?bfa (by omega) ?_)
              | (go_at_call 46; refine (c_r5Compare _ _ _ _ _ _ _ _ _ _ _ _ (by assumption) (by assumption) (by assumption) (by assumption) _).mono ?_; rintro e w' ⟨rfl, hb⟩; obtain ⟨p, rfl⟩ := below_grew hb; clear hb) | (refine wp_region_mix (id := 6) 15 [(0, true), (1, true), (2, true), (3, true), (4, true), (5, true), (6, true), (7, true), (8, true), (9, true), (10, true), (11, true), (12, true), (13, true), (14, true)] (by kernel_rfl) (by kernel_rfl) ?_) | (refine wp_region_plan (id := 8) 9 (.quiet 0 (.quiet 1 (.quiet 2 (.quiet 3 (.quiet 5 (.quiet 6 (.quiet 7 (.loud 4 (.loud 8 .done))))))))) (by kernel_rfl) (by kernel_rfl) ?_) | (refine mix_quiet rfl (fun K hK => ?_); go_simp) | (apply Exists.intro; refine ⟨fun (_ : Ext) => ?_, ?_⟩; · (first | (go_at_call 46; exact calls_later (c_r5Compare _ _ _ _ _ _ _ _ _ _ _ _ (by assumption) (by assumption) (by assumption) (by assumption) _)))) | (refine mix_end (fun p => ?_); simp only [List.drop_succ_cons, List.drop_zero]) | (refine plan_quiet rfl (fun K hK => ?_); go_simp) | (refine plan_end (fun p => ?_); simp only [List.drop_succ_cons, List.drop_zero]) | (refine plan_fork ?_ ?_) | (refine plan_loud (i := 4) rfl (fun p K hK => ?_); go_simp; try ((with_reducible refine hK _ _ ?hkc ?_); (case hkc => refine below_grew ?_; (try simp only [grew_grew, Array.append_assoc]); repeat' (first | with_reducible exact Below.refl _ _ | with_reducible assumption | with_reducible exact below_more _ _ _ _ | (with_reducible refine below_app _ _ _ _ ?_ ?_; rotate_left; simp only [Array.append_assoc]; rfl) | with_reducible apply below_grews | with_reducible apply Below.drew | with_reducible apply Below.alloc | with_reducible apply Below.setCell | (simp [size_grew, -Nat.not_le, -Nat.not_lt] <;> omega))))))
            case rea => exact (hR.take j).below (by (try simp only [grew_grew, Array.append_assoc]); repeat' (first | with_reducible exact Below.refl _ _ | with_reducible assumption | with_reducible exact below_more _ _ _ _ | (with_reducible refine below_app _ _ _ _ ?_ ?_; rotate_left; simp only [Array.append_assoc]; rfl) | with_reducible apply below_grews | with_reducible apply Below.drew | with_reducible apply Below.alloc | with_reducible apply Below.setCell | (simp [size_grew, -Nat.not_le, -Nat.not_lt] <;> omega)))
            case ofa =>
              refine own_lit (k := 6) (fun _ => rfl) 62 wr.heap.size [] ?noa ?boa rfl (by simp) rfl
              case noa => simp [size_grew]
              case boa => simp [size_grew, -Nat.not_le, -Nat.not_lt] <;> omega
            case bfa => simp [size_grew, -Nat.not_le, -Nat.not_lt] <;> omega
            intro v2 w2 hown2 hg2
            have hB2 : Below wr.heap.size wr w2 := below_own' (by (try simp only [grew_grew, Array.append_assoc]); repeat' (first | with_reducible exact Below.refl _ _ | with_reducible assumption | with_reducible exact below_more _ _ _ _ | (with_reducible refine below_app _ _ _ _ ?_ ?_; rotate_left; simp only [Array.append_assoc]; rfl) | with_reducible apply below_grews | with_reducible apply Below.drew | with_reducible apply Below.alloc | with_reducible apply Below.setCell | (simp [size_grew, -Nat.not_le, -Nat.not_lt] <;> omega))) (by simp [size_grew, -Nat.not_le, -Nat.not_lt] <;> omega) hg2 (by intro b hb; cases hb; simp [size_grew, -Nat.not_le, -Nat.not_lt] <;> omega)
            have hB12 : Below w1.heap.size w1 w2 := below_own' (by (try simp only [grew_grew, Array.append_assoc]); repeat' (first | with_reducible exact Below.refl _ _ | with_reducible assumption | with_reducible exact below_more _ _ _ _ | (with_reducible refine below_app _ _ _ _ ?_ ?_; rotate_left; simp only [Array.append_assoc]; rfl) | with_reducible apply below_grews | with_reducible apply Below.drew | with_reducible apply Below.alloc | with_reducible apply Below.setCell | (simp [size_grew, -Nat.not_le, -Nat.not_lt] <;> omega))) (by simp [size_grew, -Nat.not_le, -Nat.not_lt] <;> omega) hg2 (by intro b hb; cases hb; simp [size_grew, -Nat.not_le, -Nat.not_lt] <;> omega)
            have hR2 := hR1.below hB12
            have hs2 := hB2.size
            clear hg2 hR1 hB12
            go_wp2_with (first
              | (at_builtin; refine app_row (enc := encE) (e := 62) (n := j) wr.heap.size 6 48 zeroE (by kernel_rfl) (by kernel_rfl) rfl (by omega) (fun _ => rfl) oneCell_E rfl rfl (ys.take j) rfl ([xs[k]] ++ (ys.drop j)) rfl (by rw [hl1]; try simp) ?rga hA1 ?oga (by omega) ?bga (by omega) ?_)
              | (go_at_call 46; refine (c_r5Compare _ _ _ _ _ _ _ _ _ _ _ _ (by assumption) (by assumption) (by assumption) (by assumption) _).mono ?_; rintro e w' ⟨rfl, hb⟩; obtain ⟨p, rfl⟩ := below_grew hb; clear hb) | (refine wp_region_mix (id := 6) 15 [(0, true), (1, true), (2, true), (3, true), (4, true), (5, true), (6, true), (7, true), (8, true), (9, true), (10, true), (11, true), (12, true), (13, true), (14, true)] (by kernel_rfl) (by kernel_rfl) ?_) | (refine wp_region_plan (id := 8) 9 (.quiet 0 (.quiet 1 (.quiet 2 (.quiet 3 (.quiet 5 (.quiet 6 (.quiet 7 (.loud 4 (.loud 8 .done))))))))) (by kernel_rfl) (by kernel_rfl) ?_) | (refine mix_quiet rfl (fun K hK => ?_); go_simp) | (apply Exists.intro; refine ⟨fun (_ : Ext) => ?_, ?_⟩; · (first | (go_at_call 46; exact calls_later (c_r5Compare _ _ _ _ _ _ _ _ _ _ _ _ (by assumption) (by assumption) (by assumption) (by assumption) _)))) | (refine mix_end (fun p => ?_); simp only [List.drop_succ_cons, List.drop_zero]) | (refine plan_quiet rfl (fun K hK => ?_); go_simp) | (refine plan_end (fun p => ?_); simp only [List.drop_succ_cons, List.drop_zero]) | (refine plan_fork ?_ ?_) | (refine plan_loud (i := 4) rfl (fun p K hK => ?_); go_simp; try ((with_reducible refine hK _ _ ?hkc ?_); (case hkc => refine below_grew ?_; (try simp only [grew_grew, Array.append_assoc]); repeat' (first | with_reducible exact Below.refl _ _ | with_reducible assumption | with_reducible exact below_more _ _ _ _ | (with_reducible refine below_app _ _ _ _ ?_ ?_; rotate_left; simp only [Array.append_assoc]; rfl) | with_reducible apply below_grews | with_reducible apply Below.drew | with_reducible apply Below.alloc | with_reducible apply Below.setCell | (simp [size_grew, -Nat.not_le, -Nat.not_lt] <;> omega))))))
            case rga => exact hR2
            case oga => exact hown2
            case bga => exact hs2
            intro v3 w3 hown3 hg3
            have hB3 : Below wr.heap.size wr w3 := below_own' hB2 hs2 hg3 (own_base hown2)
            have H3 : Hid (w3.ownsRow w.heap.size 62 6 v3 (k + 1) ((rSort (xs.take (k + 1))).flatMap encE)) := by
              show World.ownsRow _ _ _ _ _ _ _
              rw [HI.out]
              have e : j + (1 + (k - j)) = k + 1 := by omega
              try rw [e] at hown3
              simpa using own_mono hown3 hB.size
            clear hg3 hown3 hR2 hown2
            go_wp2
            go_roundw
            case rel => exact ⟨k + 1, by omega, by go_num, H3, Later.trans hB hB3⟩
            case measure => first | (simp [intOf]; done) | (simp [intOf]; omega)
        · obtain rfl : j = k := by omega
          have hp := place_spec ys xs[j] j (by omega) H1.out (fun y hy => by rw [List.getElem?_eq_none (by omega)] at hy; cases hy)
          rcases HO.out.2 with ⟨hv, hk0⟩ | ⟨g, cap, cur, hv, hgb, hgo, _, _, _, _⟩
          · injection hv with e1 e2 e3
            subst e1 hk0 e3
            simp only [Nat.zero_mul, Nat.add_zero] at h0 h1 h2 h3 h4 h5
            have HI : Hid (rSort (xs.take (0 + 1)) = ys.take 0 ++ ([xs[0]] ++ ([] : List Ent))) := by
              show rSort (xs.take (0 + 1)) = _
              rw [rSort_take xs hlt, Hys.out]; unfold ins; rw [hp, List.drop_eq_nil_of_le (by omega)]; rfl
            clear Hys
            go_wp2_with (first
              | (go_at_call 46; refine (c_r5Compare _ _ _ _ _ _ _ _ _ _ _ _ (by assumption) (by assumption) (by assumption) (by assumption) _).mono ?_; rintro e w' ⟨rfl, hb⟩; obtain ⟨p, rfl⟩ := below_grew hb; clear hb) | (refine wp_region_mix (id := 6) 15 [(0, true), (1, true), (2, true), (3, true), (4, true), (5, true), (6, true), (7, true), (8, true), (9, true), (10, true), (11, true), (12, true), (13, true), (14, true)] (by kernel_rfl) (by kernel_rfl) ?_) | (refine wp_region_plan (id := 8) 9 (.quiet 0 (.quiet 1 (.quiet 2 (.quiet 3 (.quiet 5 (.quiet 6 (.quiet 7 (.loud 4 (.loud 8 .done))))))))) (by kernel_rfl) (by kernel_rfl) ?_) | (refine mix_quiet rfl (fun K hK => ?_); go_simp) | (apply Exists.intro; refine ⟨fun (_ : Ext) => ?_, ?_⟩; · (first | (go_at_call 46; exact calls_later (c_r5Compare _ _ _ _ _ _ _ _ _ _ _ _ (by assumption) (by assumption) (by assumption) (by assumption) _)))) | (refine mix_end (fun p => ?_); simp only [List.drop_succ_cons, List.drop_zero]) | (refine plan_quiet rfl (fun K hK => ?_); go_simp) | (refine plan_end (fun p => ?_); simp only [List.drop_succ_cons, List.drop_zero]) | (refine plan_fork ?_ ?_) | (refine plan_loud (i := 4) rfl (fun p K hK => ?_); go_simp; try ((with_reducible refine hK _ _ ?hkc ?_); (case hkc => refine below_grew ?_; (try simp only [grew_grew, Array.append_assoc]); repeat' (first | with_reducible exact Below.refl _ _ | with_reducible assumption | with_reducible exact below_more _ _ _ _ | (with_reducible refine below_app _ _ _ _ ?_ ?_; rotate_left; simp only [Array.append_assoc]; rfl) | with_reducible apply below_grews | with_reducible apply Below.drew | with_reducible apply Below.alloc | with_reducible apply Below.setCell | (simp [size_grew, -Nat.not_le, -Nat.not_lt] <;> omega))))))
            refine plan_app (i := 8) rfl rfl ?_
            intro p1 K1 hK8
            refine wp_appR (enc := encE) (e := 62) (n := 1) wr.heap.size 6 48 zeroE (by kernel_rfl) (by kernel_rfl) rfl (by omega) (fun _ => rfl) oneCell_E rfl [xs[0]] rfl ([] : List Ent) rfl rfl ?rdb (fun _ => rfl) ?owb (by omega) ?bab (by omega) ?_
            case rdb => exact Reads.nil _ _ _ _
            case owb =>
              refine own_grew (own_lit (k := 6) (fun _ => rfl) 62 wr.heap.size [xs[0]] ?nnb ?bbb rfl (by simp) rfl) _
              case nnb => simp [size_grew]
              case bbb => simp [size_grew, -Nat.not_le, -Nat.not_lt] <;> omega
            case bab => simp [size_grew, -Nat.not_le, -Nat.not_lt] <;> omega
            intro v1 w1 hown hg
            have hB1 : Below wr.heap.size wr w1 := below_own' (by (try simp only [grew_grew, Array.append_assoc]); repeat' (first | with_reducible exact Below.refl _ _ | with_reducible assumption | with_reducible exact below_more _ _ _ _ | (with_reducible refine below_app _ _ _ _ ?_ ?_; rotate_left; simp only [Array.append_assoc]; rfl) | with_reducible apply below_grews | with_reducible apply Below.drew | with_reducible apply Below.alloc | with_reducible apply Below.setCell | (simp [size_grew, -Nat.not_le, -Nat.not_lt] <;> omega))) (by simp [size_grew, -Nat.not_le, -Nat.not_lt] <;> omega) hg (by intro b hb; cases hb; simp [size_grew, -Nat.not_le, -Nat.not_lt] <;> omega)
            refine hK8 _ _ (ext_of_below2 (d := 0) ?hqb) ?_
            case hqb => exact below_own' (by (try simp only [grew_grew, Array.append_assoc]); repeat' (first | with_reducible exact Below.refl _ _ | with_reducible assumption | with_reducible exact below_more _ _ _ _ | (with_reducible refine below_app _ _ _ _ ?_ ?_; rotate_left; simp only [Array.append_assoc]; rfl) | with_reducible apply below_grews | with_reducible apply Below.drew | with_reducible apply Below.alloc | with_reducible apply Below.setCell | (simp [size_grew, -Nat.not_le, -Nat.not_lt] <;> omega))) (by simp [size_grew, -Nat.not_le, -Nat.not_lt] <;> omega) hg (by intro b hb; cases hb; simp [size_grew, -Nat.not_le, -Nat.not_lt] <;> omega)
            clear hK8 hg
            obtain ⟨A1, c1, rfl, hc1, hc1'⟩ := own_form hown
            have hA1 : A1 = none → c1 = 0 := own_nil hown
            have hl1 : ([xs[0]] ++ ([] : List Ent)).length = 1 + (0 - 0) := by simp; try omega
            have hR1 : Reads encE 6 w1 A1 ([xs[0]] ++ ([] : List Ent)) := (Reads.of_own (enc := encE) (k := 6) (e := 62) (base := wr.heap.size) (n := 1 + (0 - 0)) (c := c1) (fun _ => rfl) (by rw [hl1]; simpa using hown)).2
            have hs1 := hB1.size
            clear hown
            go_simp
            refine plan_end (fun p3 => ?_)
            try simp only [List.drop_succ_cons, List.drop_zero]
            go_wp2_with (first
              | (at_builtin; refine app_row (enc := encE) (e := 62) (n := 0) wr.heap.size 6 48 zeroE (by kernel_rfl) (by kernel_rfl) rfl (by omega) (fun _ => rfl) oneCell_E rfl rfl [] rfl (ys.take 0) rfl (by rw [List.length_take]; omega) ?reb (fun _ => rfl) ?ofb (by omega) ?bfb (by omega) ?_)
              | (go_at_call 46; refine (c_r5Compare _ _ _ _ _ _ _ _ _ _ _ _ (by assumption) (by assumption) (by assumption) (by assumption) _).mono ?_; rintro e w' ⟨rfl, hb⟩; obtain ⟨p, rfl⟩ := below_grew hb; clear hb) | (refine wp_region_mix (id := 6) 15 [(0, true), (1, true), (2, true), (3, true), (4, true), (5, true), (6, true), (7, true), (8, true), (9, true), (10, true), (11, true), (12, true), (13, true), (14, true)] (by kernel_rfl) (by kernel_rfl) ?_) | (refine wp_region_plan (id := 8) 9 (.quiet 0 (.quiet 1 (.quiet 2 (.quiet 3 (.quiet 5 (.quiet 6 (.quiet 7 (.loud 4 (.loud 8 .done))))))))) (by kernel_rfl) (by kernel_rfl) ?_) | (refine mix_quiet rfl (fun K hK => ?_); go_simp) | (apply Exists.intro; refine ⟨fun (_ : Ext) => ?_, ?_⟩; · (first | (go_at_call 46; exact calls_later (c_r5Compare _ _ _ _ _ _ _ _ _ _ _ _ (by assumption) (by assumption) (by assumption) (by assumption) _)))) | (refine mix_end (fun p => ?_); simp only [List.drop_succ_cons, List.drop_zero]) | (refine plan_quiet rfl (fun K hK => ?_); go_simp) | (refine plan_end (fun p => ?_); simp only [List.drop_succ_cons, List.drop_zero]) | (refine plan_fork ?_ ?_) | (refine plan_loud (i := 4) rfl (fun p K hK => ?_); go_simp; try ((with_reducible refine hK _ _ ?hkc ?_); (case hkc => refine below_grew ?_; (try simp only [grew_grew, Array.append_assoc]); repeat' (first | with_reducible exact Below.refl _ _ | with_reducible assumption | with_reducible exact below_more _ _ _ _ | (with_reducible refine below_app _ _ _ _ ?_ ?_; rotate_left; simp only [Array.append_assoc]; rfl) | with_reducible apply below_grews | with_reducible apply Below.drew | with_reducible apply Below.alloc | with_reducible apply Below.setCell | (simp [size_grew, -Nat.not_le, -Nat.not_lt] <;> omega))))))
            case reb => exact (hR.take 0).below (by (try simp only [grew_grew, Array.append_assoc]); repeat' (first | with_reducible exact Below.refl _ _ | with_reducible assumption | with_reducible exact below_more _ _ _ _ | (with_reducible refine below_app _ _ _ _ ?_ ?_; rotate_left; simp only [Array.append_assoc]; rfl) | with_reducible apply below_grews | with_reducible apply Below.drew | with_reducible apply Below.alloc | with_reducible apply Below.setCell | (simp [size_grew, -Nat.not_le, -Nat.not_lt] <;> omega)))
            case ofb =>
              refine own_lit (k := 6) (fun _ => rfl) 62 wr.heap.size [] ?nob ?bob rfl (by simp) rfl
              case nob => simp [size_grew]
              case bob => simp [size_grew, -Nat.not_le, -Nat.not_lt] <;> omega
            case bfb => simp [size_grew, -Nat.not_le, -Nat.not_lt] <;> omega
            intro v2 w2 hown2 hg2
            have hB2 : Below wr.heap.size wr w2 := below_own' (by (try simp only [grew_grew, Array.append_assoc]); repeat' (first | with_reducible exact Below.refl _ _ | with_reducible assumption | with_reducible exact below_more _ _ _ _ | (with_reducible refine below_app _ _ _ _ ?_ ?_; rotate_left; simp only [Array.append_assoc]; rfl) | with_reducible apply below_grews | with_reducible apply Below.drew | with_reducible apply Below.alloc | with_reducible apply Below.setCell | (simp [size_grew, -Nat.not_le, -Nat.not_lt] <;> omega))) (by simp [size_grew, -Nat.not_le, -Nat.not_lt] <;> omega) hg2 (by intro b hb; cases hb; simp [size_grew, -Nat.not_le, -Nat.not_lt] <;> omega)
            have hB12 : Below w1.heap.size w1 w2 := below_own' (by (try simp only [grew_grew, Array.append_assoc]); repeat' (first | with_reducible exact Below.refl _ _ | with_reducible assumption | with_reducible exact below_more _ _ _ _ | (with_reducible refine below_app _ _ _ _ ?_ ?_; rotate_left; simp only [Array.append_assoc]; rfl) | with_reducible apply below_grews | with_reducible apply Below.drew | with_reducible apply Below.alloc | with_reducible apply Below.setCell | (simp [size_grew, -Nat.not_le, -Nat.not_lt] <;> omega))) (by simp [size_grew, -Nat.not_le, -Nat.not_lt] <;> omega) hg2 (by intro b hb; cases hb; simp [size_grew, -Nat.not_le, -Nat.not_lt] <;> omega)
            have hR2 := hR1.below hB12
            have hs2 := hB2.size
            clear hg2 hR1 hB12
            go_wp2_with (first
              | (at_builtin; refine app_row (enc := encE) (e := 62) (n := 0) wr.heap.size 6 48 zeroE (by kernel_rfl) (by kernel_rfl) rfl (by omega) (fun _ => rfl) oneCell_E rfl rfl (ys.take 0) rfl ([xs[0]] ++ ([] : List Ent)) rfl (by rw [hl1]; try simp) ?rgb hA1 ?ogb (by omega) ?bgb (by omega) ?_)
              | (go_at_call 46; refine (c_r5Compare _ _ _ _ _ _ _ _ _ _ _ _ (by assumption) (by assumption) (by assumption) (by assumption) _).mono ?_; rintro e w' ⟨rfl, hb⟩; obtain ⟨p, rfl⟩ := below_grew hb; clear hb) | (refine wp_region_mix (id := 6) 15 [(0, true), (1, true), (2, true), (3, true), (4, true), (5, true), (6, true), (7, true), (8, true), (9, true), (10, true), (11, true), (12, true), (13, true), (14, true)] (by kernel_rfl) (by kernel_rfl) ?_) | (refine wp_region_plan (id := 8) 9 (.quiet 0 (.quiet 1 (.quiet 2 (.quiet 3 (.quiet 5 (.quiet 6 (.quiet 7 (.loud 4 (.loud 8 .done))))))))) (by kernel_rfl) (by kernel_rfl) ?_) | (refine mix_quiet rfl (fun K hK => ?_); go_simp) | (apply Exists.intro; refine ⟨fun (_ : Ext) => ?_, ?_⟩; · (first | (go_at_call 46; exact calls_later (c_r5Compare _ _ _ _ _ _ _ _ _ _ _ _ (by assumption) (by assumption) (by assumption) (by assumption) _)))) | (refine mix_end (fun p => ?_); simp only [List.drop_succ_cons, List.drop_zero]) | (refine plan_quiet rfl (fun K hK => ?_); go_simp) | (refine plan_end (fun p => ?_); simp only [List.drop_succ_cons, List.drop_zero]) | (refine plan_fork ?_ ?_) | (refine plan_loud (i := 4) rfl (fun p K hK => ?_); go_simp; try ((with_reducible refine hK _ _ ?hkc ?_); (case hkc => refine below_grew ?_; (try simp only [grew_grew, Array.append_assoc]); repeat' (first | with_reducible exact Below.refl _ _ | with_reducible assumption | with_reducible exact below_more _ _ _ _ | (with_reducible refine below_app _ _ _ _ ?_ ?_; rotate_left; simp only [Array.append_assoc]; rfl) | with_reducible apply below_grews | with_reducible apply Below.drew | with_reducible apply Below.alloc | with_reducible apply Below.setCell | (simp [size_grew, -Nat.not_le, -Nat.not_lt] <;> omega))))))
            case rgb => exact hR2
            case ogb => exact hown2
            case bgb => exact hs2
            intro v3 w3 hown3 hg3
            have hB3 : Below wr.heap.size wr w3 := below_own' hB2 hs2 hg3 (own_base hown2)
            have H3 : Hid (w3.ownsRow w.heap.size 62 6 v3 (0 + 1) ((rSort (xs.take (0 + 1))).flatMap encE)) := by
              show World.ownsRow _ _ _ _ _ _ _
              rw [HI.out]
              have e : 0 + (1 + (0 - 0)) = 0 + 1 := by omega
              try rw [e] at hown3
              simpa using own_mono hown3 hB.size
            clear hg3 hown3 hR2 hown2
            go_wp2
            go_roundw
            case rel => exact ⟨0 + 1, by omega, by go_num, H3, Later.trans hB hB3⟩
            case measure => first | (simp [intOf]; done) | (simp [intOf]; omega)
          · injection hv with e1 e2 e3
            subst e1 e3
            have hg : g < wr.heap.size := (Array.getElem?_eq_some_iff.1 hgo).1
            clear hgo
            by_cases hdj : d = j
            · have hdj2 := hdj.symm
              subst hdj2
              have HI : Hid (rSort (xs.take (j + 1)) = ys.take j ++ ([xs[j]] ++ ([] : List Ent))) := by
                show rSort (xs.take (j + 1)) = _
                rw [rSort_take xs hlt, Hys.out]; unfold ins; rw [hp, List.drop_eq_nil_of_le (by omega)]; rfl
              clear Hys
              go_wp2_with (first
                | (go_at_call 46; refine (c_r5Compare _ _ _ _ _ _ _ _ _ _ _ _ (by assumption) (by assumption) (by assumption) (by assumption) _).mono ?_; rintro e w' ⟨rfl, hb⟩; obtain ⟨p, rfl⟩ := below_grew hb; clear hb) | (refine wp_region_mix (id := 6) 15 [(0, true), (1, true), (2, true), (3, true), (4, true), (5, true), (6, true), (7, true), (8, true), (9, true), (10, true), (11, true), (12, true), (13, true), (14, true)] (by kernel_rfl) (by kernel_rfl) ?_) | (refine wp_region_plan (id := 8) 9 (.quiet 0 (.quiet 1 (.quiet 2 (.quiet 3 (.quiet 5 (.quiet 6 (.quiet 7 (.loud 4 (.loud 8 .done))))))))) (by kernel_rfl) (by kernel_rfl) ?_) | (refine mix_quiet rfl (fun K hK => ?_); go_simp) | (apply Exists.intro; refine ⟨fun (_ : Ext) => ?_, ?_⟩; · (first | (go_at_call 46; exact calls_later (c_r5Compare _ _ _ _ _ _ _ _ _ _ _ _ (by assumption) (by assumption) (by assumption) (by assumption) _)))) | (refine mix_end (fun p => ?_); simp only [List.drop_succ_cons, List.drop_zero]) | (refine plan_quiet rfl (fun K hK => ?_); go_simp) | (refine plan_end (fun p => ?_); simp only [List.drop_succ_cons, List.drop_zero]) | (refine plan_fork ?_ ?_) | (refine plan_loud (i := 4) rfl (fun p K hK => ?_); go_simp; try ((with_reducible refine hK _ _ ?hkc ?_); (case hkc => refine below_grew ?_; (try simp only [grew_grew, Array.append_assoc]); repeat' (first | with_reducible exact Below.refl _ _ | with_reducible assumption | with_reducible exact below_more _ _ _ _ | (with_reducible refine below_app _ _ _ _ ?_ ?_; rotate_left; simp only [Array.append_assoc]; rfl) | with_reducible apply below_grews | with_reducible apply Below.drew | with_reducible apply Below.alloc | with_reducible apply Below.setCell | (simp [size_grew, -Nat.not_le, -Nat.not_lt] <;> omega))))))
              refine plan_app (i := 8) rfl rfl ?_
              intro p1 K1 hK8
              refine wp_appR (enc := encE) (e := 62) (n := 1) wr.heap.size 6 48 zeroE (by kernel_rfl) (by kernel_rfl) rfl (by omega) (fun _ => rfl) oneCell_E rfl [xs[j]] rfl ([] : List Ent) rfl (by simp) ?rdc (fun h => (by cases h)) ?owc (by omega) ?bac (by omega) ?_
              case rdc => exact Reads.nil _ _ _ _
              case owc =>
                refine own_grew (own_lit (k := 6) (fun _ => rfl) 62 wr.heap.size [xs[j]] ?nnc ?bbc rfl (by simp) rfl) _
                case nnc => simp [size_grew]
                case bbc => simp [size_grew, -Nat.not_le, -Nat.not_lt] <;> omega
              case bac => simp [size_grew, -Nat.not_le, -Nat.not_lt] <;> omega
              intro v1 w1 hown hg
              have hB1 : Below wr.heap.size wr w1 := below_own' (by (try simp only [grew_grew, Array.append_assoc]); repeat' (first | with_reducible exact Below.refl _ _ | with_reducible assumption | with_reducible exact below_more _ _ _ _ | (with_reducible refine below_app _ _ _ _ ?_ ?_; rotate_left; simp only [Array.append_assoc]; rfl) | with_reducible apply below_grews | with_reducible apply Below.drew | with_reducible apply Below.alloc | with_reducible apply Below.setCell | (simp [size_grew, -Nat.not_le, -Nat.not_lt] <;> omega))) (by simp [size_grew, -Nat.not_le, -Nat.not_lt] <;> omega) hg (by intro b hb; cases hb; simp [size_grew, -Nat.not_le, -Nat.not_lt] <;> omega)
              refine hK8 _ _ (ext_of_below2 (d := 0) ?hqc) ?_
              case hqc => exact below_own' (by (try simp only [grew_grew, Array.append_assoc]); repeat' (first | with_reducible exact Below.refl _ _ | with_reducible assumption | with_reducible exact below_more _ _ _ _ | (with_reducible refine below_app _ _ _ _ ?_ ?_; rotate_left; simp only [Array.append_assoc]; rfl) | with_reducible apply below_grews | with_reducible apply Below.drew | with_reducible apply Below.alloc | with_reducible apply Below.setCell | (simp [size_grew, -Nat.not_le, -Nat.not_lt] <;> omega))) (by simp [size_grew, -Nat.not_le, -Nat.not_lt] <;> omega) hg (by intro b hb; cases hb; simp [size_grew, -Nat.not_le, -Nat.not_lt] <;> omega)
              clear hK8 hg
              obtain ⟨A1, c1, rfl, hc1, hc1'⟩ := own_form hown
              have hA1 : A1 = none → c1 = 0 := own_nil hown
              have hl1 : ([xs[j]] ++ ([] : List Ent)).length = 1 + (j - j) := by simp; try omega
              have hR1 : Reads encE 6 w1 A1 ([xs[j]] ++ ([] : List Ent)) := (Reads.of_own (enc := encE) (k := 6) (e := 62) (base := wr.heap.size) (n := 1 + (j - j)) (c := c1) (fun _ => rfl) (by rw [hl1]; simpa using hown)).2
              have hs1 := hB1.size
              clear hown
              go_simp
              refine plan_end (fun p3 => ?_)
              try simp only [List.drop_succ_cons, List.drop_zero]
              go_wp2_with (first
                | (at_builtin; refine app_row (enc := encE) (e := 62) (n := 0) wr.heap.size 6 48 zeroE (by kernel_rfl) (by kernel_rfl) rfl (by omega) (fun _ => rfl) oneCell_E rfl rfl [] rfl (ys.take j) rfl (by rw [List.length_take]; omega) ?rec (fun h => (by cases h)) ?ofc (by omega) ?bfc (by omega) ?_)
                | (go_at_call 46; refine (c_r5Compare _ _ _ _ _ _ _ _ _ _ _ _ (by assumption) (by assumption) (by assumption) (by assumption) _).mono ?_; rintro e w' ⟨rfl, hb⟩; obtain ⟨p, rfl⟩ := below_grew hb; clear hb) | (refine wp_region_mix (id := 6) 15 [(0, true), (1, true), (2, true), (3, true), (4, true), (5, true), (6, true), (7, true), (8, true), (9, true), (10, true), (11, true), (12, true), (13, true), (14, true)] (by kernel_rfl) (by kernel_rfl) ?_) | (refine wp_region_plan (id := 8) 9 (.quiet 0 (.quiet 1 (.quiet 2 (.quiet 3 (.quiet 5 (.quiet 6 (.quiet 7 (.loud 4 (.loud 8 .done))))))))) (by kernel_rfl) (by kernel_rfl) ?_) | (refine mix_quiet rfl (fun K hK => ?_); go_simp) | (apply Exists.intro; refine ⟨fun (_ : Ext) => ?_, ?_⟩; · (first | (go_at_call 46; exact calls_later (c_r5Compare _ _ _ _ _ _ _ _ _ _ _ _ (by assumption) (by assumption) (by assumption) (by assumption) _)))) | (refine mix_end (fun p => ?_); simp only [List.drop_succ_cons, List.drop_zero]) | (refine plan_quiet rfl (fun K hK => ?_); go_simp) | (refine plan_end (fun p => ?_); simp only [List.drop_succ_cons, List.drop_zero]) | (refine plan_fork ?_ ?_) | (refine plan_loud (i := 4) rfl (fun p K hK => ?_); go_simp; try ((with_reducible refine hK _ _ ?hkc ?_); (case hkc => refine below_grew ?_; (try simp only [grew_grew, Array.append_assoc]); repeat' (first | with_reducible exact Below.refl _ _ | with_reducible assumption | with_reducible exact below_more _ _ _ _ | (with_reducible refine below_app _ _ _ _ ?_ ?_; rotate_left; simp only [Array.append_assoc]; rfl) | with_reducible apply below_grews | with_reducible apply Below.drew | with_reducible apply Below.alloc | with_reducible apply Below.setCell | (simp [size_grew, -Nat.not_le, -Nat.not_lt] <;> omega))))))
              case rec => exact (hR.take j).below (by (try simp only [grew_grew, Array.append_assoc]); repeat' (first | with_reducible exact Below.refl _ _ | with_reducible assumption | with_reducible exact below_more _ _ _ _ | (with_reducible refine below_app _ _ _ _ ?_ ?_; rotate_left; simp only [Array.append_assoc]; rfl) | with_reducible apply below_grews | with_reducible apply Below.drew | with_reducible apply Below.alloc | with_reducible apply Below.setCell | (simp [size_grew, -Nat.not_le, -Nat.not_lt] <;> omega)))
              case ofc =>
                refine own_lit (k := 6) (fun _ => rfl) 62 wr.heap.size [] ?noc ?boc rfl (by simp) rfl
                case noc => simp [size_grew]
                case boc => simp [size_grew, -Nat.not_le, -Nat.not_lt] <;> omega
              case bfc => simp [size_grew, -Nat.not_le, -Nat.not_lt] <;> omega
              intro v2 w2 hown2 hg2
              have hB2 : Below wr.heap.size wr w2 := below_own' (by (try simp only [grew_grew, Array.append_assoc]); repeat' (first | with_reducible exact Below.refl _ _ | with_reducible assumption | with_reducible exact below_more _ _ _ _ | (with_reducible refine below_app _ _ _ _ ?_ ?_; rotate_left; simp only [Array.append_assoc]; rfl) | with_reducible apply below_grews | with_reducible apply Below.drew | with_reducible apply Below.alloc | with_reducible apply Below.setCell | (simp [size_grew, -Nat.not_le, -Nat.not_lt] <;> omega))) (by simp [size_grew, -Nat.not_le, -Nat.not_lt] <;> omega) hg2 (by intro b hb; cases hb; simp [size_grew, -Nat.not_le, -Nat.not_lt] <;> omega)
              have hB12 : Below w1.heap.size w1 w2 := below_own' (by (try simp only [grew_grew, Array.append_assoc]); repeat' (first | with_reducible exact Below.refl _ _ | with_reducible assumption | with_reducible exact below_more _ _ _ _ | (with_reducible refine below_app _ _ _ _ ?_ ?_; rotate_left; simp only [Array.append_assoc]; rfl) | with_reducible apply below_grews | with_reducible apply Below.drew | with_reducible apply Below.alloc | with_reducible apply Below.setCell | (simp [size_grew, -Nat.not_le, -Nat.not_lt] <;> omega))) (by simp [size_grew, -Nat.not_le, -Nat.not_lt] <;> omega) hg2 (by intro b hb; cases hb; simp [size_grew, -Nat.not_le, -Nat.not_lt] <;> omega)
              have hR2 := hR1.below hB12
              have hs2 := hB2.size
              clear hg2 hR1 hB12
              go_wp2_with (first
                | (at_builtin; refine app_row (enc := encE) (e := 62) (n := j) wr.heap.size 6 48 zeroE (by kernel_rfl) (by kernel_rfl) rfl (by omega) (fun _ => rfl) oneCell_E rfl rfl (ys.take j) rfl ([xs[j]] ++ ([] : List Ent)) rfl (by rw [hl1]; try simp) ?rgc hA1 ?ogc (by omega) ?bgc (by omega) ?_)
                | (go_at_call 46; refine (c_r5Compare _ _ _ _ _ _ _ _ _ _ _ _ (by assumption) (by assumption) (by assumption) (by assumption) _).mono ?_; rintro e w' ⟨rfl, hb⟩; obtain ⟨p, rfl⟩ := below_grew hb; clear hb) | (refine wp_region_mix (id := 6) 15 [(0, true), (1, true), (2, true), (3, true), (4, true), (5, true), (6, true), (7, true), (8, true), (9, true), (10, true), (11, true), (12, true), (13, true), (14, true)] (by kernel_rfl) (by kernel_rfl) ?_) | (refine wp_region_plan (id := 8) 9 (.quiet 0 (.quiet 1 (.quiet 2 (.quiet 3 (.quiet 5 (.quiet 6 (.quiet 7 (.loud 4 (.loud 8 .done))))))))) (by kernel_rfl) (by kernel_rfl) ?_) | (refine mix_quiet rfl (fun K hK => ?_); go_simp) | (apply Exists.intro; refine ⟨fun (_ : Ext) => ?_, ?_⟩; · (first | (go_at_call 46; exact calls_later (c_r5Compare _ _ _ _ _ _ _ _ _ _ _ _ (by assumption) (by assumption) (by assumption) (by assumption) _)))) | (refine mix_end (fun p => ?_); simp only [List.drop_succ_cons, List.drop_zero]) | (refine plan_quiet rfl (fun K hK => ?_); go_simp) | (refine plan_end (fun p => ?_); simp only [List.drop_succ_cons, List.drop_zero]) | (refine plan_fork ?_ ?_) | (refine plan_loud (i := 4) rfl (fun p K hK => ?_); go_simp; try ((with_reducible refine hK _ _ ?hkc ?_); (case hkc => refine below_grew ?_; (try simp only [grew_grew, Array.append_assoc]); repeat' (first | with_reducible exact Below.refl _ _ | with_reducible assumption | with_reducible exact below_more _ _ _ _ | (with_reducible refine below_app _ _ _ _ ?_ ?_; rotate_left; simp only [Array.append_assoc]; rfl) | with_reducible apply below_grews | with_reducible apply Below.drew | with_reducible apply Below.alloc | with_reducible apply Below.setCell | (simp [size_grew, -Nat.not_le, -Nat.not_lt] <;> omega))))))
              case rgc => exact hR2
              case ogc => exact hown2
              case bgc => exact hs2
              intro v3 w3 hown3 hg3
              have hB3 : Below wr.heap.size wr w3 := below_own' hB2 hs2 hg3 (own_base hown2)
              have H3 : Hid (w3.ownsRow w.heap.size 62 6 v3 (j + 1) ((rSort (xs.take (j + 1))).flatMap encE)) := by
                show World.ownsRow _ _ _ _ _ _ _
                rw [HI.out]
                have e : j + (1 + (j - j)) = j + 1 := by omega
                try rw [e] at hown3
                simpa using own_mono hown3 hB.size
              clear hg3 hown3 hR2 hown2
              go_wp2
              go_roundw
              case rel => exact ⟨j + 1, by omega, by go_num, H3, Later.trans hB hB3⟩
              case measure => first | (simp [intOf]; done) | (simp [intOf]; omega)
            · skip
              have HI : Hid (rSort (xs.take (j + 1)) = ys.take j ++ ([xs[j]] ++ ([] : List Ent))) := by
                show rSort (xs.take (j + 1)) = _
                rw [rSort_take xs hlt, Hys.out]; unfold ins; rw [hp, List.drop_eq_nil_of_le (by omega)]; rfl
              clear Hys
              go_wp2_with (first
                | (go_at_call 46; refine (c_r5Compare _ _ _ _ _ _ _ _ _ _ _ _ (by assumption) (by assumption) (by assumption) (by assumption) _).mono ?_; rintro e w' ⟨rfl, hb⟩; obtain ⟨p, rfl⟩ := below_grew hb; clear hb) | (refine wp_region_mix (id := 6) 15 [(0, true), (1, true), (2, true), (3, true), (4, true), (5, true), (6, true), (7, true), (8, true), (9, true), (10, true), (11, true), (12, true), (13, true), (14, true)] (by kernel_rfl) (by kernel_rfl) ?_) | (refine wp_region_plan (id := 8) 9 (.quiet 0 (.quiet 1 (.quiet 2 (.quiet 3 (.quiet 5 (.quiet 6 (.quiet 7 (.loud 4 (.loud 8 .done))))))))) (by kernel_rfl) (by kernel_rfl) ?_) | (refine mix_quiet rfl (fun K hK => ?_); go_simp) | (apply Exists.intro; refine ⟨fun (_ : Ext) => ?_, ?_⟩; · (first | (go_at_call 46; exact calls_later (c_r5Compare _ _ _ _ _ _ _ _ _ _ _ _ (by assumption) (by assumption) (by assumption) (by assumption) _)))) | (refine mix_end (fun p => ?_); simp only [List.drop_succ_cons, List.drop_zero]) | (refine plan_quiet rfl (fun K hK => ?_); go_simp) | (refine plan_end (fun p => ?_); simp only [List.drop_succ_cons, List.drop_zero]) | (refine plan_fork ?_ ?_) | (refine plan_loud (i := 4) rfl (fun p K hK => ?_); go_simp; try ((with_reducible refine hK _ _ ?hkc ?_); (case hkc => refine below_grew ?_; (try simp only [grew_grew, Array.append_assoc]); repeat' (first | with_reducible exact Below.refl _ _ | with_reducible assumption | with_reducible exact below_more _ _ _ _ | (with_reducible refine below_app _ _ _ _ ?_ ?_; rotate_left; simp only [Array.append_assoc]; rfl) | with_reducible apply below_grews | with_reducible apply Below.drew | with_reducible apply Below.alloc | with_reducible apply Below.setCell | (simp [size_grew, -Nat.not_le, -Nat.not_lt] <;> omega))))))
              refine plan_app (i := 8) rfl rfl ?_
              intro p1 K1 hK8
              refine wp_appR (enc := encE) (e := 62) (n := 1) wr.heap.size 6 48 zeroE (by kernel_rfl) (by kernel_rfl) rfl (by omega) (fun _ => rfl) oneCell_E rfl [xs[j]] rfl ([] : List Ent) rfl (by simp) ?rdd (fun h => (by cases h)) ?owd (by omega) ?bad (by omega) ?_
              case rdd => exact Reads.nil _ _ _ _
              case owd =>
                refine own_grew (own_lit (k := 6) (fun _ => rfl) 62 wr.heap.size [xs[j]] ?nnd ?bbd rfl (by simp) rfl) _
                case nnd => simp [size_grew]
                case bbd => simp [size_grew, -Nat.not_le, -Nat.not_lt] <;> omega
              case bad => simp [size_grew, -Nat.not_le, -Nat.not_lt] <;> omega
              intro v1 w1 hown hg
              have hB1 : Below wr.heap.size wr w1 := below_own' (by (try simp only [grew_grew, Array.append_assoc]); repeat' (first | with_reducible exact Below.refl _ _ | with_reducible assumption | with_reducible exact below_more _ _ _ _ | (with_reducible refine below_app _ _ _ _ ?_ ?_; rotate_left; simp only [Array.append_assoc]; rfl) | with_reducible apply below_grews | with_reducible apply Below.drew | with_reducible apply Below.alloc | with_reducible apply Below.setCell | (simp [size_grew, -Nat.not_le, -Nat.not_lt] <;> omega))) (by simp [size_grew, -Nat.not_le, -Nat.not_lt] <;> omega) hg (by intro b hb; cases hb; simp [size_grew, -Nat.not_le, -Nat.not_lt] <;> omega)
              refine hK8 _ _ (ext_of_below2 (d := 0) ?hqd) ?_
              case hqd => exact below_own' (by (try simp only [grew_grew, Array.append_assoc]); repeat' (first | with_reducible exact Below.refl _ _ | with_reducible assumption | with_reducible exact below_more _ _ _ _ | (with_reducible refine below_app _ _ _ _ ?_ ?_; rotate_left; simp only [Array.append_assoc]; rfl) | with_reducible apply below_grews | with_reducible apply Below.drew | with_reducible apply Below.alloc | with_reducible apply Below.setCell | (simp [size_grew, -Nat.not_le, -Nat.not_lt] <;> omega))) (by simp [size_grew, -Nat.not_le, -Nat.not_lt] <;> omega) hg (by intro b hb; cases hb; simp [size_grew, -Nat.not_le, -Nat.not_lt] <;> omega)
              clear hK8 hg
              obtain ⟨A1, c1, rfl, hc1, hc1'⟩ := own_form hown
              have hA1 : A1 = none → c1 = 0 := own_nil hown
              have hl1 : ([xs[j]] ++ ([] : List Ent)).length = 1 + (j - j) := by simp; try omega
              have hR1 : Reads encE 6 w1 A1 ([xs[j]] ++ ([] : List Ent)) := (Reads.of_own (enc := encE) (k := 6) (e := 62) (base := wr.heap.size) (n := 1 + (j - j)) (c := c1) (fun _ => rfl) (by rw [hl1]; simpa using hown)).2
              have hs1 := hB1.size
              clear hown
              go_simp
              refine plan_end (fun p3 => ?_)
              try simp only [List.drop_succ_cons, List.drop_zero]
              go_wp2_with (first
                | (at_builtin; refine app_row (enc := encE) (e := 62) (n := 0) wr.heap.size 6 48 zeroE (by kernel_rfl) (by kernel_rfl) rfl (by omega) (fun _ => rfl) oneCell_E rfl rfl [] rfl (ys.take j) rfl (by rw [List.length_take]; omega) ?red (fun h => (by cases h)) ?ofd (by omega) ?bfd (by omega) ?_)
                | (go_at_call 46; refine (c_r5Compare _ _ _ _ _ _ _ _ _ _ _ _ (by assumption) (by assumption) (by assumption) (by assumption) _).mono ?_; rintro e w' ⟨rfl, hb⟩; obtain ⟨p, rfl⟩ := below_grew hb; clear hb) | (refine wp_region_mix (id := 6) 15 [(0, true), (1, true), (2, true), (3, true), (4, true), (5, true), (6, true), (7, true), (8, true), (9, true), (10, true), (11, true), (12, true), (13, true), (14, true)] (by kernel_rfl) (by kernel_rfl) ?_) | (refine wp_region_plan (id := 8) 9 (.quiet 0 (.quiet 1 (.quiet 2 (.quiet 3 (.quiet 5 (.quiet 6 (.quiet 7 (.loud 4 (.loud 8 .done))))))))) (by kernel_rfl) (by kernel_rfl) ?_) | (refine mix_quiet rfl (fun K hK => ?_); go_simp) | (apply Exists.intro; refine ⟨fun (_ : Ext) => ?_, ?_⟩; · (first | (go_at_call 46; exact calls_later (c_r5Compare _ _ _ _ _ _ _ _ _ _ _ _ (by assumption) (by assumption) (by assumption) (by assumption) _)))) | (refine mix_end (fun p => ?_); simp only [List.drop_succ_cons, List.drop_zero]) | (refine plan_quiet rfl (fun K hK => ?_); go_simp) | (refine plan_end (fun p => ?_); simp only [List.drop_succ_cons, List.drop_zero]) | (refine plan_fork ?_ ?_) | (refine plan_loud (i := 4) rfl (fun p K hK => ?_); go_simp; try ((with_reducible refine hK _ _ ?hkc ?_); (case hkc => refine below_grew ?_; (try simp only [grew_grew, Array.append_assoc]); repeat' (first | with_reducible exact Below.refl _ _ | with_reducible assumption | with_reducible exact below_more _ _ _ _ | (with_reducible refine below_app _ _ _ _ ?_ ?_; rotate_left; simp only [Array.append_assoc]; rfl) | with_reducible apply below_grews | with_reducible apply Below.drew | with_reducible apply Below.alloc | with_reducible apply Below.setCell | (simp [size_grew, -Nat.not_le, -Nat.not_lt] <;> omega))))))
              case red => exact (hR.take j).below (by (try simp only [grew_grew, Array.append_assoc]); repeat' (first | with_reducible exact Below.refl _ _ | with_reducible assumption | with_reducible exact below_more _ _ _ _ | (with_reducible refine below_app _ _ _ _ ?_ ?_; rotate_left; simp only [Array.append_assoc]; rfl) | with_reducible apply below_grews | with_reducible apply Below.drew | with_reducible apply Below.alloc | with_reducible apply Below.setCell | (simp [size_grew, -Nat.not_le, -Nat.not_lt] <;> omega)))
              case ofd =>
                refine own_lit (k := 6) (fun _ => rfl) 62 wr.heap.size [] ?nod ?bod rfl (by simp) rfl
                case nod => simp [size_grew]
                case bod => simp [size_grew, -Nat.not_le, -Nat.not_lt] <;> omega
              case bfd => simp [size_grew, -Nat.not_le, -Nat.not_lt] <;> omega
              intro v2 w2 hown2 hg2
              have hB2 : Below wr.heap.size wr w2 := below_own' (by (try simp only [grew_grew, Array.append_assoc]); repeat' (first | with_reducible exact Below.refl _ _ | with_reducible assumption | with_reducible exact below_more _ _ _ _ | (with_reducible refine below_app _ _ _ _ ?_ ?_; rotate_left; simp only [Array.append_assoc]; rfl) | with_reducible apply below_grews | with_reducible apply Below.drew | with_reducible apply Below.alloc | with_reducible apply Below.setCell | (simp [size_grew, -Nat.not_le, -Nat.not_lt] <;> omega))) (by simp [size_grew, -Nat.not_le, -Nat.not_lt] <;> omega) hg2 (by intro b hb; cases hb; simp [size_grew, -Nat.not_le, -Nat.not_lt] <;> omega)
              have hB12 : Below w1.heap.size w1 w2 := below_own' (by (try simp only [grew_grew, Array.append_assoc]); repeat' (first | with_reducible exact Below.refl _ _ | with_reducible assumption | with_reducible exact below_more _ _ _ _ | (with_reducible refine below_app _ _ _ _ ?_ ?_; rotate_left; simp only [Array.append_assoc]; rfl) | with_reducible apply below_grews | with_reducible apply Below.drew | with_reducible apply Below.alloc | with_reducible apply Below.setCell | (simp [size_grew, -Nat.not_le, -Nat.not_lt] <;> omega))) (by simp [size_grew, -Nat.not_le, -Nat.not_lt] <;> omega) hg2 (by intro b hb; cases hb; simp [size_grew, -Nat.not_le, -Nat.not_lt] <;> omega)
              have hR2 := hR1.below hB12
              have hs2 := hB2.size
              clear hg2 hR1 hB12
              go_wp2_with (first
                | (at_builtin; refine app_row (enc := encE) (e := 62) (n := j) wr.heap.size 6 48 zeroE (by kernel_rfl) (by kernel_rfl) rfl (by omega) (fun _ => rfl) oneCell_E rfl rfl (ys.take j) rfl ([xs[j]] ++ ([] : List Ent)) rfl (by rw [hl1]; try simp) ?rgd hA1 ?ogd (by omega) ?bgd (by omega) ?_)
                | (go_at_call 46; refine (c_r5Compare _ _ _ _ _ _ _ _ _ _ _ _ (by assumption) (by assumption) (by assumption) (by assumption) _).mono ?_; rintro e w' ⟨rfl, hb⟩; obtain ⟨p, rfl⟩ := below_grew hb; clear hb) | (refine wp_region_mix (id := 6) 15 [(0, true), (1, true), (2, true), (3, true), (4, true), (5, true), (6, true), (7, true), (8, true), (9, true), (10, true), (11, true), (12, true), (13, true), (14, true)] (by kernel_rfl) (by kernel_rfl) ?_) | (refine wp_region_plan (id := 8) 9 (.quiet 0 (.quiet 1 (.quiet 2 (.quiet 3 (.quiet 5 (.quiet 6 (.quiet 7 (.loud 4 (.loud 8 .done))))))))) (by kernel_rfl) (by kernel_rfl) ?_) | (refine mix_quiet rfl (fun K hK => ?_); go_simp) | (apply Exists.intro; refine ⟨fun (_ : Ext) => ?_, ?_⟩; · (first | (go_at_call 46; exact calls_later (c_r5Compare _ _ _ _ _ _ _ _ _ _ _ _ (by assumption) (by assumption) (by assumption) (by assumption) _)))) | (refine mix_end (fun p => ?_); simp only [List.drop_succ_cons, List.drop_zero]) | (refine plan_quiet rfl (fun K hK => ?_); go_simp) | (refine plan_end (fun p => ?_); simp only [List.drop_succ_cons, List.drop_zero]) | (refine plan_fork ?_ ?_) | (refine plan_loud (i := 4) rfl (fun p K hK => ?_); go_simp; try ((with_reducible refine hK _ _ ?hkc ?_); (case hkc => refine below_grew ?_; (try simp only [grew_grew, Array.append_assoc]); repeat' (first | with_reducible exact Below.refl _ _ | with_reducible assumption | with_reducible exact below_more _ _ _ _ | (with_reducible refine below_app _ _ _ _ ?_ ?_; rotate_left; simp only [Array.append_assoc]; rfl) | with_reducible apply below_grews | with_reducible apply Below.drew | with_reducible apply Below.alloc | with_reducible apply Below.setCell | (simp [size_grew, -Nat.not_le, -Nat.not_lt] <;> omega))))))
              case rgd => exact hR2
              case ogd => exact hown2
              case bgd => exact hs2
              intro v3 w3 hown3 hg3
              have hB3 : Below wr.heap.size wr w3 := below_own' hB2 hs2 hg3 (own_base hown2)
              have H3 : Hid (w3.ownsRow w.heap.size 62 6 v3 (j + 1) ((rSort (xs.take (j + 1))).flatMap encE)) := by
                show World.ownsRow _ _ _ _ _ _ _
                rw [HI.out]
                have e : j + (1 + (j - j)) = j + 1 := by omega
                try rw [e] at hown3
                simpa using own_mono hown3 hB.size
              clear hg3 hown3 hR2 hown2
              go_wp2
              go_roundw
              case rel => exact ⟨j + 1, by omega, by go_num, H3, Later.trans hB hB3⟩
              case measure => first | (simp [intOf]; done) | (simp [intOf]; omega)
    · obtain rfl : k = xs.length := by omega
      have h7 := HO.out
      rw [← Hys.out, List.take_length, rSort_sortE] at h7
      clear HO Hys Hyo hR hyl
      go_wp2
      go_ret
      exact ⟨_, rfl, h7, hB⟩
end Go.Proofs.YtjmnnkhdadoehaaGreat
