/- Merging, in plain Lean; merge.two. -/
import Derived.Test.YtjmnnkhdadoehaaGreatYWalkM
import Derived.Test.YtjmnnkhdadoehaaGreatYAbs8
import Derived.Test.YtjmnnkhdadoehaaGreatYWalkS
import Derived.Test.YtjmnnkhdadoehaaGreatYLen
import Derived.Test.YtjmnnkhdadoehaaGreatYWalkH
namespace Go.Proofs.YtjmnnkhdadoehaaGreat
set_option linter.unusedSimpArgs false
set_option linter.unusedVariables false
open Go Go.RowKit Go.Shelf
theorem dif_eq {x y : W2} (hx : x.ok) (hy : y.ok) {i : Nat} : abit (aDiffer x.v y.v x.m) i = mDif x y i := by
  unfold aDiffer mDif
  rw [abit_and (ok_xor hx.1 hy.1) hx.2, abit_xor hx.1 hy.1, Bool.and_comm]
theorem mergeIs_ref {x y : W2} (hx : x.ok) (hy : y.ok) : rMergeIs x y = wMergeIs x y := by
  unfold rMergeIs wMergeIs
  rw [aOnes_cnt (a := aDiffer x.v y.v x.m) (ok_and (ok_xor hx.1 hy.1) hx.2), cntTo_congr 128 fun i _ => (dif_eq hx hy (i := i))]
  congr 1
  rw [decide_eq_decide]
  omega
theorem wMerge_ok {x y : W2} (hx : x.ok) (hy : y.ok) : (wMergeW x y).ok := by
  unfold wMergeW
  split
  · exact ⟨ok_and hx.1 (ok_xor hx.2 (ok_and (ok_xor hx.1 hy.1) hx.2)), ok_xor hx.2 (ok_and (ok_xor hx.1 hy.1) hx.2)⟩
  · exact ⟨ok_zero, ok_zero⟩
/-! ### The first two that merge -/
def goodP (l : List Ent) (i k : Nat) : Bool := decide ((nth l k).len = (nth l i).len) && (decide ((nth l k).act = (nth l i).act) && wMergeIs (nth l i).w (nth l k).w)
def fst2 (l : List Ent) : Option (Nat × Nat) := (List.range l.length).findSome? fun i => ((List.range l.length).find? fun k => decide (i < k) && goodP l i k).map fun k => (i, k)
def ClearG (l : List Ent) (i k : Nat) : Prop := ∀ p q, p < q → q < l.length → (p < i ∨ p = i ∧ q < k) → goodP l p q = false
theorem fst2_spec {l : List Ent} {i k : Nat} (h : fst2 l = some (i, k)) : i < k ∧ k < l.length ∧ goodP l i k = true := by
  unfold fst2 at h
  obtain ⟨a, ha, hb⟩ := List.exists_of_findSome?_eq_some h
  rw [Option.map_eq_some_iff] at hb
  obtain ⟨k', hk, e⟩ := hb
  injection e with e1 e2
  subst e1 e2
  have h1 := List.find?_some hk
  have h2 := List.mem_of_find?_eq_some hk
  simp only [Bool.and_eq_true, decide_eq_true_eq] at h1
  exact ⟨h1.1, List.mem_range.1 h2, h1.2⟩
theorem fst2_none {l : List Ent} (h : ClearG l l.length 0) : fst2 l = none := by
  cases hf : fst2 l with
  | none => rfl
  | some p =>
    obtain ⟨i, k⟩ := p
    obtain ⟨h1, h2, h3⟩ := fst2_spec hf
    rw [h i k h1 h2 (.inl (by omega))] at h3; cases h3
theorem fst2_clear {l : List Ent} {i k : Nat} (h : fst2 l = some (i, k)) : ClearG l i k := by
  intro p q hpq hq hlt
  cases hg : goodP l p q with
  | false => rfl
  | true =>
    exfalso
    obtain ⟨h1, h2, h3⟩ := fst2_spec h
    unfold fst2 at h
    have hr : ∀ m, (List.range' 0 m) = List.range m := fun m => by rw [List.range_eq_range']
    rw [List.findSome?_eq_some_iff] at h
    obtain ⟨us, a, bs, e, hb, hno⟩ := h
    rw [Option.map_eq_some_iff] at hb
    obtain ⟨k', hk, e2⟩ := hb
    injection e2 with e3 e4
    subst e3 e4
    have has : ∀ x, x ∈ us ↔ x < a := by
      have hl : us.length = a := by
        have := congrArg (fun z => z[us.length]?) e
        simp only [List.getElem?_append_right (Nat.le_refl _), Nat.sub_self, List.getElem?_cons_zero] at this
        have hlt2 : us.length < l.length := by
          have := congrArg List.length e
          simp at this; omega
        rw [List.getElem?_range hlt2] at this
        exact Option.some.inj this
      intro x
      constructor
      · intro hx
        obtain ⟨j, hj, rfl⟩ := List.mem_iff_getElem.1 hx
        have := congrArg (fun z => z[j]?) e
        simp only [List.getElem?_append_left hj, List.getElem?_eq_getElem hj] at this
        have hjl : j < l.length := by
          have := congrArg List.length e
          simp at this; omega
        rw [List.getElem?_range hjl] at this
        have := Option.some.inj this
        omega
      · intro hx
        have hjl : x < l.length := by omega
        have hxa : x < us.length := by omega
        have := congrArg (fun z => z[x]?) e
        simp only [List.getElem?_append_left hxa, List.getElem?_eq_getElem hxa] at this
        rw [List.getElem?_range hjl] at this
        rw [Option.some.inj this]
        exact List.getElem_mem hxa
    rcases hlt with hlt | ⟨rfl, hlt⟩
    · have := hno p ((has p).2 hlt)
      rw [Option.map_eq_none_iff, List.find?_eq_none] at this
      have := this q (List.mem_range.2 hq)
      simp [hpq, hg] at this
    · rw [List.find?_eq_some_iff_append] at hk
      obtain ⟨_, xs, ys, e5, hno2⟩ := hk
      have hql : q ∈ xs := by
        have hm : q ∈ xs ++ k' :: ys := by rw [← e5]; exact List.mem_range.2 hq
        rcases List.mem_append.1 hm with hm | hm
        · exact hm
        · exfalso
          have hp : (xs ++ k' :: ys).Pairwise (· < ·) := by rw [← e5]; exact List.pairwise_lt_range
          have h4 := (List.pairwise_cons.1 (List.pairwise_append.1 hp).2.1).1
          rcases List.mem_cons.1 hm with e6 | hm
          · omega
          · have := h4 q hm; omega
      have := hno2 q hql
      simp [hpq, hg] at this
theorem fst2_some {l : List Ent} {i k : Nat} (h1 : i < k) (h2 : k < l.length) (h3 : goodP l i k = true) (h4 : ClearG l i k) : fst2 l = some (i, k) := by
  cases hf : fst2 l with
  | none =>
    exfalso
    unfold fst2 at hf
    rw [List.findSome?_eq_none_iff] at hf
    have := hf i (List.mem_range.2 (by omega))
    rw [Option.map_eq_none_iff, List.find?_eq_none] at this
    have := this k (List.mem_range.2 h2)
    simp [h1, h3] at this
  | some p =>
    obtain ⟨i', k'⟩ := p
    obtain ⟨q1, q2, q3⟩ := fst2_spec hf
    have q4 := fst2_clear hf
    have a1 : ¬ (i' < i ∨ i' = i ∧ k' < k) := fun hc => by rw [h4 i' k' q1 q2 hc] at q3; cases q3
    have a2 : ¬ (i < i' ∨ i = i' ∧ k < k') := fun hc => by rw [q4 i k h1 h2 hc] at h3; cases h3
    have e1 : i' = i := by omega
    subst e1
    have e2 : k' = k := by omega
    rw [e2]
end Go.Proofs.YtjmnnkhdadoehaaGreat

/- merge.two, merge.Merge. -/
namespace Go.Proofs.YtjmnnkhdadoehaaGreat
set_option linter.unusedSimpArgs false
set_option linter.unusedVariables false
open Go Go.RowKit Go.Shelf
def Desc (l : List Ent) : Prop := ∀ (i j : Nat) (hi : i < l.length) (hj : j < l.length), i < j → l[j].len ≤ l[i].len
theorem sortE_desc (l : List Ent) : Desc (sortE l) := fun i j hi hj hij => by
  have h := (List.pairwise_iff_getElem.1 (sortE_pairwise l)) i j hi hj hij
  unfold eLe at h
  simp only [decide_eq_true_eq] at h
  rw [eCmp_lex] at h
  unfold lexKey at h
  rcases h with h | ⟨h, _⟩ <;> omega
theorem ClearG.step {l : List Ent} {i k : Nat} (h : ClearG l i k) (hg : goodP l i k = false) : ClearG l i (k + 1) := fun p q h1 h2 h3 => by
  by_cases e : p = i ∧ q = k
  · rw [e.1, e.2]; exact hg
  · exact h p q h1 h2 (by omega)
theorem ClearG.low {l : List Ent} {i k : Nat} (h : ClearG l i 0) (hk : k ≤ i + 1) : ClearG l i k := fun p q h1 h2 h3 => h p q h1 h2 (by omega)
theorem ClearG.next {l : List Ent} {i k : Nat} (h : ClearG l i k) (hr : ∀ q, k ≤ q → q < l.length → goodP l i q = false) : ClearG l (i + 1) 0 := fun p q h1 h2 h3 => by
  by_cases e : p = i
  · by_cases hq : q < k
    · exact h p q h1 h2 (.inr ⟨e, hq⟩)
    · rw [e]; exact hr q (by omega) h2
  · exact h p q h1 h2 (by omega)
theorem good_at {l : List Ent} {i k : Nat} (hi : i < l.length) (hk : k < l.length) : goodP l i k = (decide (l[k].len = l[i].len) && (decide (l[k].act = l[i].act) && wMergeIs l[i].w l[k].w)) := by
  unfold goodP; rw [nth_at l hi, nth_at l hk]
def twoI (l : List Ent) : Int := match fst2 l with | some p => (p.1 : Int) | none => 0
def twoK (l : List Ent) : Int := match fst2 l with | some p => (p.2 : Int) | none => 0
def twoW (l : List Ent) : W2 := match fst2 l with | some p => wMergeW (nth l p.1).w (nth l p.2).w | none => ⟨⟨0, 0⟩, ⟨0, 0⟩⟩
def twoIs (l : List Ent) : Bool := (fst2 l).isSome
attribute [local irreducible] OpH OpT LT CT HT Good
theorem arm67_1 {p : Prop} (h : p := by first | exact fm0 | exact fm53 | exact fm44 | exact fm6 | exact fm39 | exact fm63 | exact fm4 | exact fm25 | exact fm16 | exact fm50 | exact fm1 | exact fm54 | exact fm55 | exact fm26 | exact fm17 | exact fm7 | exact OpH.fieldC (s := 46) (f := 0) (off := 0) rfl (by kernel_rfl) rfl | exact OpH.fieldB (s := 46) (f := 0) (off := 0) rfl (by kernel_rfl) rfl | exact fm61 | exact fm15 | exact build_44_  | exact OpH.build (t := 44) (cells := #[_, _, _, _]) (by kernel_rfl) rfl | fail) : p := h
theorem stpMergeB_1 {G G' : Prop} (h' : G') (h : Hidd G' → G := by (first | (intro h; (first | refine CT.seqD (id := 5) 13 (by kernel_rfl) (by kernel_rfl) ?_ | refine CT.seqD (id := 7) 7 (by kernel_rfl) (by kernel_rfl) ?_ | refine CT.seqD (id := 8) 11 (by kernel_rfl) (by kernel_rfl) ?_ | refine CT.seqD (id := 10) 5 (by kernel_rfl) (by kernel_rfl) ?_ | refine CT.draw (id := 5) 13 (by kernel_rfl) (by kernel_rfl) ?_ | refine CT.draw (id := 7) 7 (by kernel_rfl) (by kernel_rfl) ?_ | refine CT.draw (id := 8) 11 (by kernel_rfl) (by kernel_rfl) ?_ | refine CT.draw (id := 10) 5 (by kernel_rfl) (by kernel_rfl) ?_ | (refine LT.consT ?_; (first | refine T.alloc (e := 44) (z := .agg #[.int .u64 0, .int .u64 0, .int .u64 0, .int .u64 0]) (cs := [.val (.int .u64 0), .val (.int .u64 0), .val (.int .u64 0), .val (.int .u64 0)]) (by kernel_rfl) rfl (by decide) rfl rfl ?_ | refine T.alloc (e := 46) (z := .agg #[.int .u64 0, .int .u64 0, .int .u64 0, .int .u64 0, .int .i64 0, .int .i64 0]) (cs := [.val (.int .u64 0), .val (.int .u64 0), .val (.int .u64 0), .val (.int .u64 0), .val (.int .i64 0), .val (.int .i64 0)]) (by kernel_rfl) rfl (by decide) rfl rfl ?_ | refine T.store (t := 46) rfl rfl rfl (by kernel_rfl) (by kernel_rfl) (Nat.le_of_ble_eq_true (by kernel_rfl)) rfl rfl ?_ | refine T.store (t := 44) rfl rfl rfl (by kernel_rfl) (by kernel_rfl) (Nat.le_of_ble_eq_true (by kernel_rfl)) rfl rfl ?_)) | ((first | apply LT.cons1 | (apply LT.guard1; rfl; rfl; rfl; decide) | apply HT.cons1 | (apply HT.guard1; rfl; rfl; rfl)); exact arm67_1; (try decide))); exact h.1) | fail)) : G := h ⟨h'⟩
theorem stpMergeB_2 {G G' : Prop} (h' : G') (h : Hidd G' → G := by (first | (intro h; (first | refine CT.seqDS (id := 8) 13 (by kernel_rfl) (by kernel_rfl) ?_ | refine HS.box (e := 44) (z := .agg #[.int .u64 0, .int .u64 0, .int .u64 0, .int .u64 0]) (cs := [.val (.int .u64 0), .val (.int .u64 0), .val (.int .u64 0), .val (.int .u64 0)]) (by kernel_rfl) rfl (by decide) ?_ | refine HS.put (t := 44) (d := 9) 11 rfl rfl rfl (by kernel_rfl) (by kernel_rfl) rfl rfl ?_ | refine HS.done ⟨by kernel_rfl, ?_⟩ | refine CT.seqD (id := 5) 13 (by kernel_rfl) (by kernel_rfl) ?_ | refine CT.seqD (id := 7) 7 (by kernel_rfl) (by kernel_rfl) ?_ | refine CT.seqD (id := 10) 5 (by kernel_rfl) (by kernel_rfl) ?_ | refine CT.draw (id := 5) 13 (by kernel_rfl) (by kernel_rfl) ?_ | refine CT.draw (id := 7) 7 (by kernel_rfl) (by kernel_rfl) ?_ | refine CT.draw (id := 8) 11 (by kernel_rfl) (by kernel_rfl) ?_ | refine CT.draw (id := 10) 5 (by kernel_rfl) (by kernel_rfl) ?_ | (refine LT.consT ?_; (first | refine T.alloc (e := 44) (z := .agg #[.int .u64 0, .int .u64 0, .int .u64 0, .int .u64 0]) (cs := [.val (.int .u64 0), .val (.int .u64 0), .val (.int .u64 0), .val (.int .u64 0)]) (by kernel_rfl) rfl (by decide) rfl rfl ?_ | refine T.alloc (e := 46) (z := .agg #[.int .u64 0, .int .u64 0, .int .u64 0, .int .u64 0, .int .i64 0, .int .i64 0]) (cs := [.val (.int .u64 0), .val (.int .u64 0), .val (.int .u64 0), .val (.int .u64 0), .val (.int .i64 0), .val (.int .i64 0)]) (by kernel_rfl) rfl (by decide) rfl rfl ?_ | refine T.store (t := 46) rfl rfl rfl (by kernel_rfl) (by kernel_rfl) (Nat.le_of_ble_eq_true (by kernel_rfl)) rfl rfl ?_ | refine T.store (t := 44) rfl rfl rfl (by kernel_rfl) (by kernel_rfl) (Nat.le_of_ble_eq_true (by kernel_rfl)) rfl rfl ?_)) | ((first | apply LT.cons1 | (apply LT.guard1; rfl; rfl; rfl; decide) | apply HT.cons1 | (apply HT.guard1; rfl; rfl; rfl)); exact arm67_1; (try decide))); exact h.1) | fail)) : G := h ⟨h'⟩
set_option maxRecDepth 100000 in
set_option maxHeartbeats 4000000 in
theorem g_two (l : List Ent) (hd : Desc l) (hok : ∀ x ∈ l, x.w.ok) (hl : l.length ≤ 65536) : Good Tryz.prog 67 [.sl 6 (l.map encE)] (.tup [.val (.int .i64 (twoI l)), .val (.int .i64 (twoK l)), .val (.agg #[.int .u64 (twoW l).v.x, .int .u64 (twoW l).v.y, .int .u64 (twoW l).m.x, .int .u64 (twoW l).m.y]), .val (.bool (twoIs l))]) := by
  refine Good.of_body (T := [(0, _)]) Tryz.func67 rfl rfl rfl ?_
  intro K0 w0 hno
  repeat' (first | refine stpMergeB_1 ?_ | refine stp ?_ | (refine stq ?_ ?_ <;> intro _))
  refine CT.loopX (fun i : Nat => (⟨[(0, .sl 6 (l.map encE)), (4, .ptr 4 0), (11, .sl 6 (l.map encE)), (12, .val (.int .i64 l.length)), (13, .val (.int .i64 i))], [(4, [.val (.int .u64 0), .val (.int .u64 0), .val (.int .u64 0), .val (.int .u64 0)])], []⟩ : St))
    (fun i => i ≤ l.length ∧ ClearG l i 0) (fun i => l.length - i) 0 ?_ ⟨by omega, fun p q h1 h2 h3 => by omega⟩ ?_
  · exact subT
  rintro i ⟨hi, hc⟩
  by_cases hlt : i < l.length
  · repeat' (first | refine stpMergeB_1 ?_ | refine stp ?_ | (refine stq ?_ ?_ <;> intro _))
    refine CT.loopX (fun k : Nat => (⟨[(0, .sl 6 (l.map encE)), (4, .ptr 4 0), (6, .val (.int .i64 i)), (7, .ptr 7 0), (8, .val (.int .i64 k)), (11, .sl 6 (l.map encE)), (12, .val (.int .i64 l.length)), (13, .val (.int .i64 i))], [(4, [.val (.int .u64 0), .val (.int .u64 0), .val (.int .u64 0), .val (.int .u64 0)]), (7, (encE l[i]).map AV.val)], []⟩ : St))
      (fun k => i < k ∧ k ≤ l.length ∧ ClearG l i k) (fun k => l.length - k) (i + 1) ?_ ⟨by omega, by omega, hc.low (by omega)⟩ ?_
    · exact subT
    clear hc
    rintro k ⟨hik, hk, hc⟩
    by_cases hkl : k < l.length
    · have hga := good_at hlt hkl
      by_cases hle : l[k].len = l[i].len
      · by_cases hac : l[k].act = l[i].act
        · rw [decide_eq_true hle, decide_eq_true hac, Bool.true_and, Bool.true_and] at hga
          have hM := g_wMerge l[i].w l[k].w (hok _ (List.getElem_mem hlt)) (hok _ (List.getElem_mem hkl))
          rw [← hga] at hM
          cases hg : goodP l i k with
          | true =>
            rw [hg] at hM
            have hf := fst2_some hik hkl hg hc
            repeat' (first | (apply HS.val1; (first | exact OpH.callF Tryz.func97 rfl rfl rfl hM rfl | exact arm67_1)) | ((first | apply LT.cons1 | (apply LT.guard1; rfl; rfl; rfl; decide) | apply HT.cons1 | (apply HT.guard1; rfl; rfl; rfl)); (first | exact OpH.callF Tryz.func97 rfl rfl rfl hM rfl); (try decide)) | refine stpMergeB_2 ?_ | refine stp ?_ | (refine stq ?_ ?_ <;> intro _))
            refine ⟨by first | exact .inl rfl | exact .inr rfl, _, (.cons (.tmp 2 (A := .val _) rfl (fun _ h => by cases h)) (.cons (.tmp 3 (A := .val _) rfl (fun _ h => by cases h)) (.cons (.many 4 (vs := [_, _, _, _]) rfl rfl (by kernel_rfl) rfl rfl) (.cons (.tmp 5 (A := .val _) rfl (fun _ h => by cases h)) .nil)))), ?_, rfl⟩
            simp only [twoI, twoK, twoW, twoIs, hf, nth_at l hlt, nth_at l hkl]
            rfl
          | false =>
            rw [hg] at hM
            repeat' (first | (apply HS.val1; (first | exact OpH.callF Tryz.func97 rfl rfl rfl hM rfl | exact arm67_1)) | ((first | apply LT.cons1 | (apply LT.guard1; rfl; rfl; rfl; decide) | apply HT.cons1 | (apply HT.guard1; rfl; rfl; rfl)); (first | exact OpH.callF Tryz.func97 rfl rfl rfl hM rfl); (try decide)) | refine stpMergeB_2 ?_ | refine stp ?_ | (refine stq ?_ ?_ <;> intro _))
            refine ⟨k + 1, ⟨by omega, by omega, hc.step hg⟩, by omega, ?_⟩
            exact subT
        · have hg : goodP l i k = false := by rw [hga, decide_eq_false hac, Bool.false_and, Bool.and_false]
          repeat' (first | refine stpMergeB_1 ?_ | refine stp ?_ | (refine stq ?_ ?_ <;> intro _))
          refine ⟨k + 1, ⟨by omega, by omega, hc.step hg⟩, by omega, ?_⟩
          exact subT
      · repeat' (first | refine stpMergeB_1 ?_ | refine stp ?_ | (refine stq ?_ ?_ <;> intro _))
        refine ⟨i + 1, ⟨by omega, hc.next fun q hq hql => ?_⟩, by omega, ?_⟩
        · rw [good_at hlt hql]
          have h1 := hd i k hlt hkl hik
          have h2 : l[q].len ≤ l[k].len := by
            by_cases e : k = q
            · subst e; exact Int.le_refl _
            · exact hd k q hkl hql (by omega)
          rw [decide_eq_false (by omega), Bool.false_and]
        · exact subT
    · repeat' (first | refine stpMergeB_1 ?_ | refine stp ?_ | (refine stq ?_ ?_ <;> intro _))
      refine ⟨i + 1, ⟨by omega, hc.next fun q hq hql => by omega⟩, by omega, ?_⟩
      exact subT
  · obtain rfl : i = l.length := by omega
    have hf := fst2_none hc
    repeat' (first | refine stpMergeB_1 ?_ | refine stp ?_ | (refine stq ?_ ?_ <;> intro _))
    refine ⟨by first | exact .inl rfl | exact .inr rfl, _, (.cons (.tmp 2 (A := .val _) rfl (fun _ h => by cases h)) (.cons (.tmp 3 (A := .val _) rfl (fun _ h => by cases h)) (.cons (.many 4 (vs := [_, _, _, _]) rfl rfl (by kernel_rfl) rfl rfl) (.cons (.tmp 5 (A := .val _) rfl (fun _ h => by cases h)) .nil)))), ?_, rfl⟩
    simp only [twoI, twoK, twoW, twoIs, hf]
    rfl
end Go.Proofs.YtjmnnkhdadoehaaGreat

/- merge.Merge. -/
namespace Go.Proofs.YtjmnnkhdadoehaaGreat
set_option linter.unusedSimpArgs false
set_option linter.unusedVariables false
open Go Go.RowKit Go.Shelf
def keepTo (l : List Ent) (i k n : Nat) : List Ent := ((List.range n).filter fun j => decide (j ≠ i) && decide (j ≠ k)).map (nth l)
theorem keepTo_skip {l : List Ent} {i k n : Nat} (h : n = i ∨ n = k) : keepTo l i k (n + 1) = keepTo l i k n := by
  unfold keepTo
  rw [List.range_succ, List.filter_append, List.filter_cons_of_neg (by rcases h with h | h <;> simp [h]), List.filter_nil, List.append_nil]
theorem keepTo_take {l : List Ent} {i k n : Nat} (h1 : n ≠ i) (h2 : n ≠ k) (hn : n < l.length) : keepTo l i k (n + 1) = keepTo l i k n ++ [l[n]] := by
  unfold keepTo
  rw [List.range_succ, List.filter_append, List.filter_cons_of_pos (by simp [h1, h2]), List.filter_nil, List.map_append, List.map_cons, List.map_nil, nth_at l hn]
theorem keepTo_length (l : List Ent) {i k : Nat} (hik : i < k) : ∀ n, (keepTo l i k n).length + (if i < n then 1 else 0) + (if k < n then 1 else 0) = n
  | 0 => by simp [keepTo]
  | n + 1 => by
    have ih := keepTo_length l hik n
    by_cases h1 : n = i
    · rw [keepTo_skip (.inl h1)]
      rw [if_neg (by omega), if_neg (by omega)] at ih
      rw [if_pos (by omega), if_neg (by omega)]; omega
    · by_cases h2 : n = k
      · rw [keepTo_skip (.inr h2)]
        rw [if_pos (by omega), if_neg (by omega)] at ih
        rw [if_pos (by omega), if_pos (by omega)]; omega
      · have e : (keepTo l i k (n + 1)).length = (keepTo l i k n).length + 1 := by
          unfold keepTo
          rw [List.range_succ, List.filter_append, List.filter_cons_of_pos (by simp [h1, h2]), List.filter_nil]
          simp
        rw [e]
        have a1 : (if i < n + 1 then 1 else 0) = (if i < n then 1 else 0) := by
          by_cases h : i < n
          · rw [if_pos h, if_pos (by omega)]
          · rw [if_neg h, if_neg (by omega)]
        have a2 : (if k < n + 1 then 1 else 0) = (if k < n then 1 else 0) := by
          by_cases h : k < n
          · rw [if_pos h, if_pos (by omega)]
          · rw [if_neg h, if_neg (by omega)]
        rw [a1, a2]; omega
theorem keepTo_mem {l : List Ent} {i k n : Nat} (hn : n ≤ l.length) {x : Ent} (h : x ∈ keepTo l i k n) : x ∈ l := by
  unfold keepTo at h
  obtain ⟨j, hj, rfl⟩ := List.mem_map.1 h
  have hjn := List.mem_range.1 (List.mem_filter.1 hj).1
  rw [nth_at l (by omega)]
  exact List.getElem_mem _
def mEnt (l : List Ent) (i k : Nat) : Ent := ⟨wMergeW (nth l i).w (nth l k).w, (nth l i).len, (nth l i).act⟩
def stepM (l : List Ent) : Option (List Ent) := (fst2 l).map fun p => sortE (keepTo l p.1 p.2 l.length ++ [mEnt l p.1 p.2])
def mergeN : Nat → List Ent → List Ent
  | 0, l => l
  | n + 1, l => match stepM l with
    | none => l
    | some l' => mergeN n l'
def mergeE (l : List Ent) : List Ent := mergeN l.length (sortE l)
theorem step_length {l l' : List Ent} (h : stepM l = some l') : l'.length + 1 = l.length := by
  unfold stepM at h
  rw [Option.map_eq_some_iff] at h
  obtain ⟨⟨i, k⟩, h1, rfl⟩ := h
  obtain ⟨h2, h3, _⟩ := fst2_spec h1
  have := keepTo_length l h2 l.length
  rw [if_pos (by omega), if_pos (by omega)] at this
  rw [sortE_length, List.length_append, List.length_singleton]
  omega
theorem mergeN_none {l : List Ent} (h : stepM l = none) : ∀ n, mergeN n l = l
  | 0 => rfl
  | n + 1 => by simp only [mergeN, h]
theorem mergeN_some {l l' : List Ent} (h : stepM l = some l') : mergeN l.length l = mergeN l'.length l' := by
  rw [← step_length h]
  simp only [mergeN, h]
theorem step_ok {l l' : List Ent} (h : stepM l = some l') (hok : ∀ x ∈ l, x.w.ok) : ∀ x ∈ l', x.w.ok := fun x hx => by
  unfold stepM at h
  rw [Option.map_eq_some_iff] at h
  obtain ⟨⟨i, k⟩, h1, rfl⟩ := h
  obtain ⟨h2, h3, _⟩ := fst2_spec h1
  rw [sortE_mem, List.mem_append] at hx
  rcases hx with hx | hx
  · exact hok x (keepTo_mem (Nat.le_refl _) hx)
  · rw [List.mem_singleton.1 hx]
    unfold mEnt
    rw [nth_at l (by omega : i < l.length), nth_at l h3]
    exact wMerge_ok (hok _ (List.getElem_mem _)) (hok _ (List.getElem_mem _))
attribute [local irreducible] OpH OpT LT CT HT Good
theorem arm35_1 {p : Prop} (h : p := by first | exact fm0 | exact fm53 | exact fm14 | exact fm15 | exact fm44 | exact fm6 | exact fm39 | exact fm63 | exact fm7 | exact fm54 | exact fm55 | exact lit_28_1 rfl | exact fm4 | exact fm61 | exact fm25 | exact fm16 | exact fm50 | exact fm26 | exact fm17 | exact build_46_0_1_2 rfl rfl rfl | exact OpH.build (t := 46) (cells := #[_, _, _, _, _, _]) (by kernel_rfl) rfl | fail) : p := h
theorem stpMergeC_1 {G G' : Prop} (h' : G') (h : Hidd G' → G := by (first | (intro h; (first | refine CT.seqD (id := 11) 14 (by kernel_rfl) (by kernel_rfl) ?_ | refine CT.draw (id := 11) 14 (by kernel_rfl) (by kernel_rfl) ?_ | (refine LT.consT ?_; (first | refine T.callRow Tryz.func36 rfl rfl rfl ((g_eSort _ (by first | omega | (simp; omega) | simp))) (by decide) rfl ?_ | refine T.alloc (e := 44) (z := .agg #[.int .u64 0, .int .u64 0, .int .u64 0, .int .u64 0]) (cs := [.val (.int .u64 0), .val (.int .u64 0), .val (.int .u64 0), .val (.int .u64 0)]) (by kernel_rfl) rfl (by decide) rfl rfl ?_ | refine T.store (t := 44) rfl rfl rfl (by kernel_rfl) (by kernel_rfl) (Nat.le_of_ble_eq_true (by kernel_rfl)) rfl rfl ?_ | refine T.alloc (e := 46) (z := .agg #[.int .u64 0, .int .u64 0, .int .u64 0, .int .u64 0, .int .i64 0, .int .i64 0]) (cs := [.val (.int .u64 0), .val (.int .u64 0), .val (.int .u64 0), .val (.int .u64 0), .val (.int .i64 0), .val (.int .i64 0)]) (by kernel_rfl) rfl (by decide) rfl rfl ?_ | refine T.store (t := 46) rfl rfl rfl (by kernel_rfl) (by kernel_rfl) (Nat.le_of_ble_eq_true (by kernel_rfl)) rfl rfl ?_ | refine T.appNil (t := 28) (e := 46) (k := 6) (bytes := 48) rfl rfl srP (by kernel_rfl) szP (by decide) rfl ?_ | refine T.app (t := 28) (e := 46) (k := 6) (bytes := 48) rfl rfl srP (by kernel_rfl) szP (by decide) rfl rfl ?_)) | ((first | apply LT.cons1 | (apply LT.guard1; rfl; rfl; rfl; decide) | apply HT.cons1 | (apply HT.guard1; rfl; rfl; rfl)); exact arm35_1; (try decide))); exact h.1) | fail)) : G := h ⟨h'⟩
set_option maxRecDepth 100000 in
set_option maxHeartbeats 4000000 in
theorem g_Merge (xs : List Ent) (hok : ∀ x ∈ xs, x.w.ok) (hl : xs.length ≤ 4096) : Good Tryz.prog 35 [.sl 6 (xs.map encE)] (.row 3 46 6 ((mergeE xs).map encE)) := by
  refine Good.of_body (T := [(0, _)]) Tryz.func35 rfl rfl rfl ?_
  intro K0 w0 hno
  repeat' (first | refine stpMergeC_1 ?_ | refine stp ?_ | refine CT.goto ?_ | refine CT.label ?_ | (refine stq ?_ ?_ <;> intro _))
  refine CT.scopeS (fun o : List Ent => (⟨[(3, .row 3 46 6 (o.map encE))], [], []⟩ : St)) (fun o => Desc o ∧ (∀ x ∈ o, x.w.ok) ∧ o.length ≤ 4096 ∧ mergeN o.length o = mergeE xs) (fun o => o.length) 0 rfl ?_ ?_
  · rintro o ⟨hd, ho, hol, hm⟩
    have gT := g_two o hd ho (by omega)
    cases hf : fst2 o with
    | none =>
      have hs : stepM o = none := by unfold stepM; rw [hf]; rfl
      rw [mergeN_none hs] at hm
      have e1 : twoIs o = false := by unfold twoIs; rw [hf]; rfl
      rw [e1] at gT
      repeat' (first | ((first | apply LT.cons1 | (apply LT.guard1; rfl; rfl; rfl; decide) | apply HT.cons1 | (apply HT.guard1; rfl; rfl; rfl)); (first | exact OpH.callF Tryz.func67 rfl rfl rfl gT rfl); (try decide)) | refine stpMergeC_1 ?_ | refine stp ?_ | refine CT.goto ?_ | refine CT.label ?_ | (refine stq ?_ ?_ <;> intro _))
      show retA Tryz.prog Tryz.f35 _ .ret _
      refine ⟨by first | exact .inl rfl | exact .inr rfl, _, (.cons (.tmp 2 (A := .row _ _ _ _) rfl (fun _ h => by cases h)) .nil), ?_, rfl⟩
      rw [hm]
      rfl
    | some p =>
      obtain ⟨i, k⟩ := p
      obtain ⟨hik, hko, _⟩ := fst2_spec hf
      have hs : stepM o = some (sortE (keepTo o i k o.length ++ [mEnt o i k])) := by unfold stepM; rw [hf]; rfl
      have hio : i < o.length := by omega
      have e1 : twoIs o = true := by unfold twoIs; rw [hf]; rfl
      have e2 : twoI o = (i : Int) := by unfold twoI; rw [hf]
      have e3 : twoK o = (k : Int) := by unfold twoK; rw [hf]
      obtain ⟨W, eW⟩ : ∃ W, twoW o = W := ⟨_, rfl⟩
      have e4 : mEnt o i k = ⟨W, o[i].len, o[i].act⟩ := by unfold mEnt; rw [← eW]; unfold twoW; rw [hf]; simp only [nth_at o hio]
      rw [e1, e2, e3, eW] at gT
      repeat' (first | ((first | apply LT.cons1 | (apply LT.guard1; rfl; rfl; rfl; decide) | apply HT.cons1 | (apply HT.guard1; rfl; rfl; rfl)); (first | exact OpH.callF Tryz.func67 rfl rfl rfl gT rfl); (try decide)) | refine stpMergeC_1 ?_ | refine stp ?_ | refine CT.goto ?_ | refine CT.label ?_ | (refine stq ?_ ?_ <;> intro _))
      refine CT.loopX (fun n : Nat => (⟨[(3, .row 3 46 6 (o.map encE)), (4, .val (.int .i64 i)), (5, .val (.int .i64 k)), (6, .ptr 6 0), (8, .row 8 46 6 ((keepTo o i k n).map encE)), (21, .sl 6 (o.map encE)), (22, .val (.int .i64 o.length)), (23, .val (.int .i64 n))], [(6, [.val (.int .u64 W.v.x), .val (.int .u64 W.v.y), .val (.int .u64 W.m.x), .val (.int .u64 W.m.y)])], []⟩ : St))
        (fun n => n ≤ o.length) (fun n => o.length - n) 0 ?_ (by omega) ?_
      · rw [show keepTo o i k 0 = [] from rfl]
        exact subT
      rintro n hn
      have hkn := keepTo_length o hik n
      by_cases hlt : n < o.length
      · have hkl : (keepTo o i k n).length ≤ 4096 := by omega
        by_cases hni : n = i
        · have hni' : (n : Int) = i := by omega
          repeat' (first | refine stpMergeC_1 ?_ | refine stp ?_ | refine CT.goto ?_ | refine CT.label ?_ | (refine stq ?_ ?_ <;> intro _))
          refine ⟨n + 1, by omega, by omega, ?_⟩
          rw [keepTo_skip (.inl hni)]
          exact subT
        · by_cases hnk : n = k
          · have hnk' : (n : Int) = k := by omega
            have hni' : ¬ (n : Int) = i := by omega
            repeat' (first | refine stpMergeC_1 ?_ | refine stp ?_ | refine CT.goto ?_ | refine CT.label ?_ | (refine stq ?_ ?_ <;> intro _))
            refine ⟨n + 1, by omega, by omega, ?_⟩
            rw [keepTo_skip (.inr hnk)]
            exact subT
          · have hni' : ¬ (n : Int) = i := by omega
            have hnk' : ¬ (n : Int) = k := by omega
            repeat' (first | refine stpMergeC_1 ?_ | refine stp ?_ | refine CT.goto ?_ | refine CT.label ?_ | (refine stq ?_ ?_ <;> intro _))
            refine ⟨n + 1, by omega, by omega, ?_⟩
            rw [keepTo_take hni hnk hlt]
            exact subT
      · obtain rfl : n = o.length := by omega
        have hkl : (keepTo o i k o.length).length ≤ 4096 := by
          rw [if_pos (by omega), if_pos (by omega)] at hkn; omega
        have hsl := step_length hs
        have gS := g_eSort (keepTo o i k o.length ++ [⟨W, o[i].len, o[i].act⟩]) (by simp only [List.length_append, List.length_singleton]; omega)
        rw [List.map_append] at gS
        repeat' (first | (refine LT.consT ?_; refine T.callRow Tryz.func36 rfl rfl rfl gS (by decide) rfl ?_) | refine stpMergeC_1 ?_ | refine stp ?_ | refine CT.goto ?_ | refine CT.label ?_ | (refine stq ?_ ?_ <;> intro _))
        refine ⟨rfl, sortE (keepTo o i k o.length ++ [mEnt o i k]), ⟨sortE_desc _, step_ok hs ho, by omega, by rw [← mergeN_some hs]; exact hm⟩, by omega, ?_⟩
        rw [e4]
        exact subT
  · intro H
    repeat' (first | refine stpMergeC_1 ?_ | refine stp ?_ | (refine stq ?_ ?_ <;> intro _))
    refine CT.label ?_
    refine CT.sub ?_ (H (sortE xs) ⟨sortE_desc _, fun x hx => hok x (sortE_mem.1 hx), by rw [sortE_length]; exact hl, by rw [sortE_length]; rfl⟩)
    exact subT
end Go.Proofs.YtjmnnkhdadoehaaGreat

/- What merging comes to, in plain Lean. -/
namespace Go.Proofs.YtjmnnkhdadoehaaGreat
set_option linter.unusedSimpArgs false
set_option linter.unusedVariables false
open Go
theorem mergeN_length : ∀ (n : Nat) (l : List Ent), (mergeN n l).length ≤ l.length
  | 0, l => Nat.le_refl _
  | n + 1, l => by
    cases hs : stepM l with
    | none => simp only [mergeN, hs]; exact Nat.le_refl _
    | some l' =>
      have := step_length hs
      have := mergeN_length n l'
      simp only [mergeN, hs]; omega
theorem mergeE_length (l : List Ent) : (mergeE l).length ≤ l.length := by
  have := mergeN_length l.length (sortE l)
  rw [sortE_length] at this
  exact this
theorem mergeN_ok : ∀ (n : Nat) (l : List Ent), (∀ x ∈ l, x.w.ok) → ∀ x ∈ mergeN n l, x.w.ok
  | 0, l, h => h
  | n + 1, l, h => by
    cases hs : stepM l with
    | none => simp only [mergeN, hs]; exact h
    | some l' => simp only [mergeN, hs]; exact mergeN_ok n l' (step_ok hs h)
theorem mergeE_ok {l : List Ent} (h : ∀ x ∈ l, x.w.ok) : ∀ x ∈ mergeE l, x.w.ok := mergeN_ok _ _ fun x hx => h x (sortE_mem.1 hx)
end Go.Proofs.YtjmnnkhdadoehaaGreat

/- What addr.Common, prefix.Match, prefix.Covers and the reference's prefixes do. -/
namespace Go.Proofs.YtjmnnkhdadoehaaGreat
set_option linter.unusedSimpArgs false
set_option linter.unusedVariables false
open Go Go.RowKit Go.Shelf
theorem g_lz (x : Int) (h : U x) : Good Tryz.prog 138 [.val (.int .u64 x)] (.val (.int .i64 (lz x))) := by
  rw [← (lz_int h).1]
  exact Good.vals (args := [.int .u64 x]) rfl fun w => (c_lz64 x w h.1 (by have := h.2; omega)).mono fun e w' ⟨h1, h2⟩ => ⟨h1, by rw [h2]; exact Below.refl _ _⟩
attribute [local irreducible] OpH OpT LT CT HT Good
theorem arm104_1 {p : Prop} (h : p := by first | exact fm0 | exact fm58 | exact OpH.callF Tryz.func126 rfl rfl rfl (g_Xor _ _ _ _) rfl | exact fm36 | exact fm34 | exact fm49 | exact fm7 | exact OpH.callF Tryz.func138 rfl rfl rfl ((g_lz _ (by assumption))) rfl | exact fm37 | exact fm35 | exact fm4 | fail) : p := h
theorem stpPfxW_1 {G G' : Prop} (h' : G') (h : Hidd G' → G := by (first | (intro h; (first | (refine LT.consT ?_; (first | refine T.box (e := 25) (cs := [.val _, .val _]) rfl rfl (by decide) rfl rfl ?_ | refine T.alloc (e := 25) (z := .agg #[.int .u64 0, .int .u64 0]) (cs := [.val (.int .u64 0), .val (.int .u64 0)]) (by kernel_rfl) rfl (by decide) rfl rfl ?_ | refine T.store (t := 25) rfl rfl rfl (by kernel_rfl) (by kernel_rfl) (Nat.le_of_ble_eq_true (by kernel_rfl)) rfl rfl ?_)) | (apply LT.cons1; exact arm104_1; (try decide))); exact h.1) | fail)) : G := h ⟨h'⟩
set_option maxRecDepth 100000 in
set_option maxHeartbeats 2000000 in
theorem g_aCommon (a b : A2) (ha : a.ok) (hb : b.ok) : Good Tryz.prog 104 [.val (.agg #[.int .u64 a.x, .int .u64 a.y]), .val (.agg #[.int .u64 b.x, .int .u64 b.y])] (.val (.int .i64 (aCommon a b))) := by
  have hx : U (aXor a b).x := U_xor ha.1 hb.1
  have hy : U (aXor a b).y := U_xor ha.2 hb.2
  have lx := (lz_int hx).2
  have ly := (lz_int hy).2
  refine Good.of_body (T := [(0, _), (1, _)]) Tryz.func104 rfl rfl rfl ?_
  intro K0 w0 hno
  by_cases e : (aXor a b).x = 0
  · have e' : aCommon a b = 64 + lz (aXor a b).y := by unfold aCommon; rw [if_neg (by simp [e])]
    repeat' (first | refine stpPfxW_1 ?_ | refine stp ?_ | (refine stq ?_ ?_ <;> intro _))
    refine ⟨by first | exact .inl rfl | exact .inr rfl, _, (.cons (.tmp 4 (A := .val _) rfl (fun _ h => by cases h)) .nil), ?_, rfl⟩
    rw [e', IntWalk.i64_in _ (show -9223372036854775808 ≤ (64 : Int) + (lz (aXor a b).y : Int) ∧ (64 : Int) + (lz (aXor a b).y : Int) ≤ 9223372036854775807 by omega)]
    rfl
  · have e' : aCommon a b = lz (aXor a b).x := by unfold aCommon; rw [if_pos e]
    repeat' (first | refine stpPfxW_1 ?_ | refine stp ?_ | (refine stq ?_ ?_ <;> intro _))
    refine ⟨by first | exact .inl rfl | exact .inr rfl, _, (.cons (.tmp 4 (A := .val _) rfl (fun _ h => by cases h)) .nil), ?_, rfl⟩
    rw [e']
    rfl
theorem arm76_1 {p : Prop} (h : p := by first | exact fm0 | exact fm30 | exact fm21 | exact fm58 | exact OpH.callF Tryz.func104 rfl rfl rfl ((g_aCommon _ _ (by assumption) (by assumption))) rfl | exact fm31 | exact fm22 | exact fm50 | exact OpH.max2 rfl rfl | exact OpH.min2 rfl rfl | exact fm2 | fail) : p := h
set_option maxRecDepth 100000 in
set_option maxHeartbeats 2000000 in
theorem g_pMatch (p : Pfx) (a : A2) (hp : p.a.ok) (ha : a.ok) : Good Tryz.prog 76 [.val (.agg #[.int .u64 p.a.x, .int .u64 p.a.y, .int .i64 p.len]), .val (.agg #[.int .u64 a.x, .int .u64 a.y])] (.val (.bool (rpMatch p a))) := by
  rw [← pmatch_ref hp ha]
  have gC := g_aCommon p.a a hp ha
  refine Good.of_body (T := [(0, _), (1, _)]) Tryz.func76 rfl rfl rfl ?_
  intro K0 w0 hno
  repeat' (first | ((first | apply LT.cons1 | apply HT.cons1); (first | exact OpH.callF Tryz.func104 rfl rfl rfl gC rfl); (try decide)) | refine CT.seqD (id := 1) 9 (by kernel_rfl) (by kernel_rfl) ?_ | refine CT.draw (id := 1) 9 (by kernel_rfl) (by kernel_rfl) ?_ | (refine LT.consT ?_; (first | refine T.box (e := 65) (cs := [.val _, .val _, .val _]) rfl rfl (by decide) rfl rfl ?_ | refine T.box (e := 25) (cs := [.val _, .val _]) rfl rfl (by decide) rfl rfl ?_)) | ((first | apply LT.cons1 | apply HT.cons1); exact arm76_1; (try decide)) | refine stp ?_ | (refine stq ?_ ?_ <;> intro _))
  refine ⟨by first | exact .inl rfl | exact .inr rfl, _, (.cons (.tmp 4 (A := .val _) rfl (fun _ h => by cases h)) .nil), ?_, rfl⟩
  have e : (if 128 < (if p.len < 0 then 0 else p.len) then 128 else if p.len < 0 then 0 else p.len) = clamp p.len := by
    unfold clamp
    (repeat' split) <;> omega
  rw [e]
  rfl
theorem arm55_1 {p : Prop} (h : p := by first | exact fm0 | exact fm31 | exact fm22 | exact fm50 | exact fm2 | exact fm53 | exact fm60 | exact fm30 | exact fm21 | exact fm58 | exact fm54 | exact fm55 | fail) : p := h
theorem stpPfxW_2 {G G' : Prop} (h' : G') (h : Hidd G' → G := by (first | (intro h; (first | (refine LT.consT ?_; (first | refine T.box (e := 65) (cs := [.val _, .val _, .val _]) rfl rfl (by decide) rfl rfl ?_)) | ((first | apply LT.cons1 | (apply LT.guard1; rfl; rfl; rfl; decide)); exact arm55_1; (try decide))); exact h.1) | fail)) : G := h ⟨h'⟩
set_option maxRecDepth 100000 in
set_option maxHeartbeats 2000000 in
theorem g_pCovers (p q : Pfx) (hp : p.a.ok) (hq : q.a.ok) : Good Tryz.prog 55 [.val (.agg #[.int .u64 p.a.x, .int .u64 p.a.y, .int .i64 p.len]), .val (.agg #[.int .u64 q.a.x, .int .u64 q.a.y, .int .i64 q.len])] (.val (.bool (rpCovers p q))) := by
  have gM := g_pMatch p q.a hp hq
  refine Good.of_body (T := [(0, _), (1, _)]) Tryz.func55 rfl rfl rfl ?_
  intro K0 w0 hno
  by_cases h : p.len ≤ q.len
  · have e : rpCovers p q = rpMatch p q.a := by unfold rpCovers; rw [decide_eq_true h, Bool.true_and]
    rw [e]
    repeat' (first | ((first | apply LT.cons1 | (apply LT.guard1; rfl; rfl; rfl; decide)); (first | exact OpH.callF Tryz.func76 rfl rfl rfl gM rfl); (try decide)) | refine stpPfxW_2 ?_ | refine stp ?_ | (refine stq ?_ ?_ <;> intro _))
    refine ⟨by first | exact .inl rfl | exact .inr rfl, _, (.cons (.tmp 4 (A := .val _) rfl (fun _ h => by cases h)) .nil), ?_, rfl⟩
    rfl
  · have e : rpCovers p q = false := by unfold rpCovers; rw [decide_eq_false h, Bool.false_and]
    rw [e]
    repeat' (first | refine stpPfxW_2 ?_ | refine stp ?_ | (refine stq ?_ ?_ <;> intro _))
    refine ⟨by first | exact .inl rfl | exact .inr rfl, _, (.cons (.tmp 4 (A := .val _) rfl (fun _ h => by cases h)) .nil), ?_, rfl⟩
    rfl
theorem g_r1Cmp (a b : A2) (ha : a.ok) (hb : b.ok) : Good Tryz.prog 84 [.val (.agg #[.int .u64 a.x, .int .u64 a.y]), .val (.agg #[.int .u64 b.x, .int .u64 b.y])] (.val (.int .i64 (aCompare a b))) :=
  Good.vals (args := [.agg #[.int .u64 a.x, .int .u64 a.y], .agg #[.int .u64 b.x, .int .u64 b.y]]) rfl fun w => c_r01Compare a.x a.y b.x b.y ha hb w
theorem arm57_1 {p : Prop} (h : p := by first | exact fm0 | exact OpH.fieldC (s := 116) (f := 0) (off := 0) rfl (by kernel_rfl) rfl | exact OpH.fieldB (s := 116) (f := 0) (off := 0) rfl (by kernel_rfl) rfl | exact fm57 | exact fm53 | exact fm1 | exact OpH.fieldC (s := 116) (f := 1) (off := 2) rfl (by kernel_rfl) rfl | exact OpH.fieldB (s := 116) (f := 1) (off := 2) rfl (by kernel_rfl) rfl | exact fm50 | exact fm6 | exact fm54 | exact fm55 | exact fm3 | fail) : p := h
theorem stpPfxW_3 {G G' : Prop} (h' : G') (h : Hidd G' → G := by (first | (intro h; (first | (refine LT.consT ?_; (first | refine T.box (e := 116) (cs := [.val _, .val _, .val _]) rfl rfl (by decide) rfl rfl ?_)) | ((first | apply LT.cons1 | (apply LT.guard1; rfl; rfl; rfl; decide)); exact arm57_1; (try decide))); exact h.1) | fail)) : G := h ⟨h'⟩
set_option maxRecDepth 100000 in
set_option maxHeartbeats 2000000 in
theorem g_r2Cmp (p q : Pfx) (hp : p.a.ok) (hq : q.a.ok) : Good Tryz.prog 57 [.val (.agg #[.int .u64 p.a.x, .int .u64 p.a.y, .int .i64 p.len]), .val (.agg #[.int .u64 q.a.x, .int .u64 q.a.y, .int .i64 q.len])] (.val (.int .i64 (pCmp p q))) := by
  have gC := g_r1Cmp p.a q.a hp hq
  unfold pCmp
  generalize aCompare p.a q.a = c at gC ⊢
  refine Good.of_body (T := [(0, _), (1, _)]) Tryz.func57 rfl rfl rfl ?_
  intro K0 w0 hno
  by_cases h0 : c = 0
  · rw [if_pos h0]
    by_cases h1 : p.len < q.len
    · rw [if_pos h1]
      repeat' (first | ((first | apply LT.cons1 | (apply LT.guard1; rfl; rfl; rfl; decide)); (first | exact OpH.callF Tryz.func84 rfl rfl rfl gC rfl); (try decide)) | refine stpPfxW_3 ?_ | refine stp ?_ | (refine stq ?_ ?_ <;> intro _))
      refine ⟨by first | exact .inl rfl | exact .inr rfl, _, (.cons (.tmp 4 (A := .val _) rfl (fun _ h => by cases h)) .nil), ?_, rfl⟩
      rfl
    · rw [if_neg h1]
      by_cases h2 : q.len < p.len
      · rw [if_pos h2]
        repeat' (first | ((first | apply LT.cons1 | (apply LT.guard1; rfl; rfl; rfl; decide)); (first | exact OpH.callF Tryz.func84 rfl rfl rfl gC rfl); (try decide)) | refine stpPfxW_3 ?_ | refine stp ?_ | (refine stq ?_ ?_ <;> intro _))
        refine ⟨by first | exact .inl rfl | exact .inr rfl, _, (.cons (.tmp 4 (A := .val _) rfl (fun _ h => by cases h)) .nil), ?_, rfl⟩
        rfl
      · rw [if_neg h2]
        repeat' (first | ((first | apply LT.cons1 | (apply LT.guard1; rfl; rfl; rfl; decide)); (first | exact OpH.callF Tryz.func84 rfl rfl rfl gC rfl); (try decide)) | refine stpPfxW_3 ?_ | refine stp ?_ | (refine stq ?_ ?_ <;> intro _))
        refine ⟨by first | exact .inl rfl | exact .inr rfl, _, (.cons (.tmp 4 (A := .val _) rfl (fun _ h => by cases h)) .nil), ?_, rfl⟩
        rw [h0]
        rfl
  · rw [if_neg h0]
    repeat' (first | ((first | apply LT.cons1 | (apply LT.guard1; rfl; rfl; rfl; decide)); (first | exact OpH.callF Tryz.func84 rfl rfl rfl gC rfl); (try decide)) | refine stpPfxW_3 ?_ | refine stp ?_ | (refine stq ?_ ?_ <;> intro _))
    refine ⟨by first | exact .inl rfl | exact .inr rfl, _, (.cons (.tmp 4 (A := .val _) rfl (fun _ h => by cases h)) .nil), ?_, rfl⟩
    rfl
def rpRight (p : Pfx) : Bool := decide (0 ≤ p.len) && (decide (p.len ≤ 128) && allTo (fun i => decide ((i : Int) < p.len) || !abit p.a i) 128)
theorem arm92_1 {p : Prop} (h : p := by first | exact fm0 | exact fm53 | exact fm7 | exact fm54 | exact fm55 | exact OpH.fieldC (s := 116) (f := 1) (off := 2) rfl (by kernel_rfl) rfl | exact OpH.fieldB (s := 116) (f := 1) (off := 2) rfl (by kernel_rfl) rfl | exact fm50 | exact fm6 | exact fm3 | exact OpH.fieldC (s := 116) (f := 0) (off := 0) rfl (by kernel_rfl) rfl | exact OpH.fieldB (s := 116) (f := 0) (off := 0) rfl (by kernel_rfl) rfl | exact fm57 | exact OpH.indexS (t := 172) (k := 1) rfl slP rfl rfl (by kernel_rfl) (map_at bd) rfl | exact fm52 | exact fm4 | fail) : p := h
theorem stpPfxW_4 {G G' : Prop} (h' : G') (h : Hidd G' → G := by (first | (intro h; (first | (refine LT.consT ?_; (first | refine T.box (e := 116) (cs := [.val _, .val _, .val _]) rfl rfl (by decide) rfl rfl ?_)) | ((first | apply LT.cons1 | (apply LT.guard1; rfl; rfl; rfl; decide)); exact arm92_1; (try decide))); exact h.1) | fail)) : G := h ⟨h'⟩
set_option maxRecDepth 100000 in
set_option maxHeartbeats 2000000 in
theorem g_r2Right (p : Pfx) (hp : p.a.ok) : Good Tryz.prog 92 [.val (.int .i64 128), .val (.agg #[.int .u64 p.a.x, .int .u64 p.a.y, .int .i64 p.len])] (.val (.bool (rpRight p))) := by
  have gp : Good Tryz.prog 121 [.val (.agg #[.int .u64 p.a.x, .int .u64 p.a.y])] (.row 0 4 1 ((bitsL (abit p.a)).map encB)) := g_Bits p.a.x p.a.y hp
  refine Good.of_body (T := [(0, _), (1, _)]) Tryz.func92 rfl rfl rfl ?_
  intro K0 w0 hno
  by_cases hlo : p.len < 0
  · have e : rpRight p = false := by unfold rpRight; rw [decide_eq_false (by omega), Bool.false_and]
    repeat' (first | refine stpPfxW_4 ?_ | refine stp ?_ | (refine stq ?_ ?_ <;> intro _))
    refine ⟨by first | exact .inl rfl | exact .inr rfl, _, (.cons (.tmp 4 (A := .val _) rfl (fun _ h => by cases h)) .nil), ?_, rfl⟩
    rw [e]; rfl
  by_cases hhi : 128 < p.len
  · have e : rpRight p = false := by unfold rpRight; rw [decide_eq_false (by omega : ¬ p.len ≤ 128), Bool.false_and, Bool.and_false]
    repeat' (first | refine stpPfxW_4 ?_ | refine stp ?_ | (refine stq ?_ ?_ <;> intro _))
    refine ⟨by first | exact .inl rfl | exact .inr rfl, _, (.cons (.tmp 4 (A := .val _) rfl (fun _ h => by cases h)) .nil), ?_, rfl⟩
    rw [e]; rfl
  obtain ⟨n, hn⟩ : ∃ n : Nat, p.len = n := ⟨p.len.toNat, by omega⟩
  have e : rpRight p = allTo (fun i => decide ((i : Int) < p.len) || !abit p.a i) 128 := by unfold rpRight; rw [decide_eq_true (by omega), decide_eq_true (by omega : p.len ≤ 128), Bool.true_and, Bool.true_and]
  repeat' (first | (refine LT.consT ?_; refine T.callRow Tryz.func121 rfl rfl rfl gp (by decide) rfl ?_) | refine stpPfxW_4 ?_ | refine stp ?_ | (refine stq ?_ ?_ <;> intro _))
  refine CT.loopX (fun k : Nat => (⟨[(5, .row 5 4 1 ((bitsL (abit p.a)).map encB)), (6, .val (.int .i64 k))], [], []⟩ : St))
    (fun k => n ≤ k ∧ k ≤ 128 ∧ ∀ i, n ≤ i → i < k → abit p.a i = false) (fun k => 128 - k) n ?_ ⟨by omega, by omega, fun i h1 h2 => by omega⟩ ?_
  · rw [← hn]
    exact subT
  rintro k ⟨h1, h2, h3⟩
  have hl1 := bitsL_len (abit p.a)
  by_cases hlt : k < 128
  · have hb : (bitsL (abit p.a))[k]'(by omega) = abit p.a k := bitsL_get _ (by omega) _
    repeat' (first | refine stpPfxW_4 ?_ | refine stp ?_ | (refine stq ?_ ?_ <;> intro _))
    · refine ⟨by first | exact .inl rfl | exact .inr rfl, _, (.cons (.tmp 4 (A := .val _) rfl (fun _ h => by cases h)) .nil), ?_, rfl⟩
      rename_i ht
      rw [hb] at ht
      rw [e]
      cases hq : allTo (fun i => decide ((i : Int) < p.len) || !abit p.a i) 128 with
      | false => rfl
      | true =>
        have := (allTo_iff _ _).1 hq k hlt
        rw [ht, decide_eq_false (by omega)] at this
        cases this
    · rename_i hf
      rw [hb] at hf
      refine ⟨k + 1, ⟨by omega, by omega, fun i h4 h5 => ?_⟩, by omega, ?_⟩
      · by_cases e2 : i = k
        · rw [e2]; exact hf
        · exact h3 i h4 (by omega)
      · exact subT
  · obtain rfl : k = 128 := by omega
    repeat' (first | refine stpPfxW_4 ?_ | refine stp ?_ | (refine stq ?_ ?_ <;> intro _))
    refine ⟨by first | exact .inl rfl | exact .inr rfl, _, (.cons (.tmp 4 (A := .val _) rfl (fun _ h => by cases h)) .nil), ?_, rfl⟩
    have : allTo (fun i => decide ((i : Int) < p.len) || !abit p.a i) 128 = true := (allTo_iff _ _).2 fun i hi => by
      by_cases c : (i : Int) < p.len
      · rw [decide_eq_true c]; rfl
      · rw [h3 i (by omega) hi]; simp
    rw [e, this]
    rfl
end Go.Proofs.YtjmnnkhdadoehaaGreat

/- Tables of routes: law06.Of, ref06.Right, ref06.Table, law09.Table. -/
namespace Go.Proofs.YtjmnnkhdadoehaaGreat
set_option linter.unusedSimpArgs false
set_option linter.unusedVariables false
open Go Go.RowKit Go.Shelf
def rrRight (r : Rte) : Bool := rpRight r.p && (decide (1 ≤ r.act) && decide (r.act ≤ 255))
theorem right_canon {p : Pfx} (hp : p.a.ok) : rpRight p = true ↔ Canon p := by
  unfold rpRight
  rw [Bool.and_eq_true, Bool.and_eq_true, decide_eq_true_eq, decide_eq_true_eq, allTo_iff]
  constructor
  · rintro ⟨h1, h2, h3⟩
    refine ⟨h1, h2, hp, fun i hi hle => ?_⟩
    have := h3 i hi
    rw [decide_eq_false (by omega), Bool.false_or] at this
    simpa using this
  · rintro ⟨h1, h2, _, h3⟩
    refine ⟨h1, h2, fun i hi => ?_⟩
    by_cases c : (i : Int) < p.len
    · rw [decide_eq_true c]; rfl
    · rw [h3 i hi (by omega)]; simp
theorem rrRight_iff {r : Rte} (hp : r.p.a.ok) : rrRight r = true ↔ Canon r.p ∧ 1 ≤ r.act ∧ r.act ≤ 255 := by
  unfold rrRight
  rw [Bool.and_eq_true, Bool.and_eq_true, decide_eq_true_eq, decide_eq_true_eq, right_canon hp]
def TabTo (rs : List Rte) (k : Nat) : Prop := ∀ (i : Nat) (hi : i < rs.length), i < k → rrRight rs[i] = true ∧ ∀ h0 : 0 < i, pLt (rs[i - 1]'(by omega)).p rs[i].p
theorem TabTo.start (rs : List Rte) : TabTo rs 0 := fun i hi h => by omega
theorem TabTo.step {rs : List Rte} {k : Nat} (h : TabTo rs k) (hk : k < rs.length) (h1 : rrRight rs[k] = true) (h2 : ∀ h0 : 0 < k, pLt (rs[k - 1]'(by omega)).p rs[k].p) : TabTo rs (k + 1) := fun i hi hik => by
  by_cases e : i = k
  · subst e; exact ⟨h1, h2⟩
  · exact h i hi (by omega)
theorem TabTo.table {rs : List Rte} (hok : ∀ r ∈ rs, r.p.a.ok) : TabTo rs rs.length ↔ TableR rs := by
  constructor
  · intro h
    refine ⟨fun r hr => ?_, fun r hr => ?_, ?_⟩
    · obtain ⟨i, hi, rfl⟩ := List.mem_iff_getElem.1 hr
      exact ((rrRight_iff (hok _ hr)).1 (h i hi hi).1).1
    · obtain ⟨i, hi, rfl⟩ := List.mem_iff_getElem.1 hr
      exact ((rrRight_iff (hok _ hr)).1 (h i hi hi).1).2
    · refine List.pairwise_iff_getElem.2 fun i j hi hj hij => ?_
      suffices H : ∀ d (hd : i + 1 + d < rs.length), pLt rs[i].p (rs[i + 1 + d]).p by
        have := H (j - i - 1) (by omega)
        simpa only [show i + 1 + (j - i - 1) = j by omega] using this
      intro d
      induction d with
      | zero =>
        intro hd
        have := (h (i + 1) hd hd).2 (by omega)
        simpa using this
      | succ d ih =>
        intro hd
        have h1 := ih (by omega)
        have h2 := (h (i + 1 + (d + 1)) hd hd).2 (by omega)
        exact h1.trans h2
  · intro h i hi _
    refine ⟨(rrRight_iff (hok _ (List.getElem_mem hi))).2 ⟨h.canon _ (List.getElem_mem hi), h.act _ (List.getElem_mem hi)⟩, fun h0 => ?_⟩
    exact (List.pairwise_iff_getElem.1 h.sorted) (i - 1) i (by omega) hi (by omega)
theorem lenR (x : Rte) : (encR x).length = 4 := rfl
theorem oneR (x : Rte) : ∀ u ∈ encR x, u.oneCell' = true := by
  intro u hu
  simp only [encR, List.mem_cons, List.not_mem_nil, or_false] at hu
  rcases hu with rfl | rfl | rfl | rfl <;> rfl
attribute [local irreducible] OpH OpT LT CT HT Good
theorem arm93_1 {p : Prop} (h : p := by first | exact fm30 | exact fm21 | exact fm58 | exact fm31 | exact fm22 | exact fm50 | exact build_116_0_1 rfl rfl | exact OpH.build (t := 116) (cells := #[_, _, _]) (by kernel_rfl) rfl | fail) : p := h
set_option maxRecDepth 100000 in
set_option maxHeartbeats 2000000 in
theorem g_law2Of (p : Pfx) : Good Tryz.prog 93 [.val (.agg #[.int .u64 p.a.x, .int .u64 p.a.y, .int .i64 p.len])] (.val (.agg #[.int .u64 p.a.x, .int .u64 p.a.y, .int .i64 p.len])) := by
  refine Good.of_body (T := [(0, _)]) Tryz.func93 rfl rfl rfl ?_
  intro K0 w0 hno
  repeat' (first | (apply LT.cons1; (first | exact OpH.build (t := 116) (cells := #[.int .u64 p.a.x, .int .u64 p.a.y, .int .i64 p.len]) (by kernel_rfl) (by kernel_rfl)); (try decide)) | (refine LT.consT ?_; (first | refine T.box (e := 65) (cs := [.val _, .val _, .val _]) rfl rfl (by decide) rfl rfl ?_ | refine T.alloc (e := 116) (z := .agg #[.int .u64 0, .int .u64 0, .int .i64 0]) (cs := [.val (.int .u64 0), .val (.int .u64 0), .val (.int .i64 0)]) (by kernel_rfl) rfl (by decide) rfl rfl ?_ | refine T.store (t := 116) rfl rfl rfl (by kernel_rfl) (by kernel_rfl) (Nat.le_of_ble_eq_true (by kernel_rfl)) rfl rfl ?_)) | (apply LT.cons1; exact arm93_1; (try decide)) | refine stp ?_ | (refine stq ?_ ?_ <;> intro _))
  refine ⟨by first | exact .inl rfl | exact .inr rfl, _, (.cons (.many 2 (vs := [_, _, _]) rfl rfl (by kernel_rfl) rfl rfl) .nil), ?_, rfl⟩
  rfl
theorem arm58_1 {p : Prop} (h : p := by first | exact fm32 | exact fm23 | exact fm60 | exact fm33 | exact fm24 | exact fm50 | exact build_118_0_1 rfl rfl | exact OpH.build (t := 118) (cells := #[_, _, _, _]) (by kernel_rfl) rfl | fail) : p := h
set_option maxRecDepth 100000 in
set_option maxHeartbeats 2000000 in
theorem g_law6One (r : Rte) : Good Tryz.prog 58 [.val (.agg #[.int .u64 r.p.a.x, .int .u64 r.p.a.y, .int .i64 r.p.len, .int .i64 r.act])] (.val (.agg #[.int .u64 r.p.a.x, .int .u64 r.p.a.y, .int .i64 r.p.len, .int .i64 r.act])) := by
  refine Good.of_body (T := [(0, _)]) Tryz.func58 rfl rfl rfl ?_
  intro K0 w0 hno
  repeat' (first | ((first | apply LT.cons1 | apply HT.cons1); (first | exact OpH.callF Tryz.func93 rfl rfl rfl (g_law2Of r.p) rfl | exact OpH.build (t := 118) (cells := #[.int .u64 r.p.a.x, .int .u64 r.p.a.y, .int .i64 r.p.len, .int .i64 r.act]) (by kernel_rfl) (by kernel_rfl)); (try decide)) | refine CT.seqD (id := 1) 6 (by kernel_rfl) (by kernel_rfl) ?_ | refine CT.draw (id := 1) 6 (by kernel_rfl) (by kernel_rfl) ?_ | (refine LT.consT ?_; (first | refine T.box (e := 67) (cs := [.val _, .val _, .val _, .val _]) rfl rfl (by decide) rfl rfl ?_ | refine T.alloc (e := 118) (z := .agg #[.int .u64 0, .int .u64 0, .int .i64 0, .int .i64 0]) (cs := [.val (.int .u64 0), .val (.int .u64 0), .val (.int .i64 0), .val (.int .i64 0)]) (by kernel_rfl) rfl (by decide) rfl rfl ?_ | refine T.store (t := 118) rfl rfl rfl (by kernel_rfl) (by kernel_rfl) (Nat.le_of_ble_eq_true (by kernel_rfl)) rfl rfl ?_)) | ((first | apply LT.cons1 | apply HT.cons1); exact arm58_1; (try decide)) | refine stp ?_ | (refine stq ?_ ?_ <;> intro _))
  refine ⟨by first | exact .inl rfl | exact .inr rfl, _, (.cons (.many 2 (vs := [_, _, _, _]) rfl rfl (by kernel_rfl) rfl rfl) .nil), ?_, rfl⟩
  rfl
theorem arm29_1 {p : Prop} (h : p := by first | exact fm0 | exact fm53 | exact fm43 | exact fm6 | exact fm38 | exact fm62 | exact lit_77_1 rfl | exact fm4 | fail) : p := h
theorem stpTab_1 {G G' : Prop} (h' : G') (h : Hidd G' → G := by (first | (intro h; (first | (refine LT.consT ?_; (first | refine T.alloc (e := 67) (z := .agg #[.int .u64 0, .int .u64 0, .int .i64 0, .int .i64 0]) (cs := [.val (.int .u64 0), .val (.int .u64 0), .val (.int .i64 0), .val (.int .i64 0)]) (by kernel_rfl) rfl (by decide) rfl rfl ?_ | refine T.store (t := 67) rfl rfl rfl (by kernel_rfl) (by kernel_rfl) (Nat.le_of_ble_eq_true (by kernel_rfl)) rfl rfl ?_ | refine T.appNil (t := 77) (e := 118) (k := 4) (bytes := 32) rfl rfl srP (by kernel_rfl) szP (by decide) rfl ?_ | refine T.app (t := 77) (e := 118) (k := 4) (bytes := 32) rfl rfl srP (by kernel_rfl) szP (by decide) rfl rfl ?_)) | (apply LT.cons1; exact arm29_1; (try decide))); exact h.1) | fail)) : G := h ⟨h'⟩
set_option maxRecDepth 100000 in
set_option maxHeartbeats 2000000 in
theorem g_law6Of (rs : List Rte) (hl : rs.length ≤ 4096) : Good Tryz.prog 29 [.sl 4 (rs.map encR)] (.row 3 118 4 (rs.map encR)) := by
  refine Good.of_body (T := [(0, _)]) Tryz.func29 rfl rfl rfl ?_
  intro K0 w0 hno
  repeat' (first | refine stpTab_1 ?_ | refine stp ?_ | (refine stq ?_ ?_ <;> intro _))
  refine CT.loopX (fun k : Nat => (⟨[(3, .row 3 118 4 ((rs.take k).map encR)), (6, .sl 4 (rs.map encR)), (7, .val (.int .i64 rs.length)), (8, .val (.int .i64 k))], [], []⟩ : St))
    (fun k => k ≤ rs.length) (fun k => rs.length - k) 0 ?_ (by omega) ?_
  · rw [List.take_zero]
    exact subT
  rintro k hk
  by_cases hlt : k < rs.length
  · have hkl : (rs.take k).length = k := by rw [List.length_take]; omega
    repeat' (first | (apply LT.cons1; (first | exact OpH.callF Tryz.func58 rfl rfl rfl (g_law6One rs[k]) rfl); (try decide)) | refine stpTab_1 ?_ | refine stp ?_ | (refine stq ?_ ?_ <;> intro _))
    refine ⟨k + 1, by omega, by omega, ?_⟩
    rw [List.take_succ_eq_append_getElem hlt]
    exact subT
  · obtain rfl : k = rs.length := by omega
    repeat' (first | refine stpTab_1 ?_ | refine stp ?_ | (refine stq ?_ ?_ <;> intro _))
    refine ⟨by first | exact .inl rfl | exact .inr rfl, _, (.cons (.tmp 2 (A := .row _ _ _ _) rfl (fun _ h => by cases h)) .nil), ?_, rfl⟩
    rw [List.take_length]
    rfl
theorem arm56_1 {p : Prop} (h : p := by first | exact fm0 | exact fm53 | exact OpH.fieldC (s := 118) (f := 0) (off := 0) rfl (by kernel_rfl) rfl | exact OpH.fieldB (s := 118) (f := 0) (off := 0) rfl (by kernel_rfl) rfl | exact fm59 | exact OpH.fieldC (s := 118) (f := 1) (off := 3) rfl (by kernel_rfl) rfl | exact OpH.fieldB (s := 118) (f := 1) (off := 3) rfl (by kernel_rfl) rfl | exact fm50 | exact fm2 | exact fm54 | exact fm55 | exact fm5 | fail) : p := h
theorem stpTab_2 {G G' : Prop} (h' : G') (h : Hidd G' → G := by (first | (intro h; (first | (refine LT.consT ?_; (first | refine T.box (e := 118) (cs := [.val _, .val _, .val _, .val _]) rfl rfl (by decide) rfl rfl ?_)) | ((first | apply LT.cons1 | (apply LT.guard1; rfl; rfl; rfl; decide)); exact arm56_1; (try decide))); exact h.1) | fail)) : G := h ⟨h'⟩
set_option maxRecDepth 100000 in
set_option maxHeartbeats 2000000 in
theorem g_r6Right (r : Rte) (hp : r.p.a.ok) : Good Tryz.prog 56 [.val (.int .i64 128), .val (.agg #[.int .u64 r.p.a.x, .int .u64 r.p.a.y, .int .i64 r.p.len, .int .i64 r.act])] (.val (.bool (rrRight r))) := by
  have gR := g_r2Right r.p hp
  unfold rrRight
  refine Good.of_body (T := [(0, _), (1, _)]) Tryz.func56 rfl rfl rfl ?_
  intro K0 w0 hno
  cases hb : rpRight r.p with
  | false =>
    rw [hb] at gR
    repeat' (first | ((first | apply LT.cons1 | (apply LT.guard1; rfl; rfl; rfl; decide)); (first | exact OpH.callF Tryz.func92 rfl rfl rfl gR rfl); (try decide)) | refine stpTab_2 ?_ | refine stp ?_ | (refine stq ?_ ?_ <;> intro _))
    refine ⟨by first | exact .inl rfl | exact .inr rfl, _, (.cons (.tmp 4 (A := .val _) rfl (fun _ h => by cases h)) .nil), ?_, rfl⟩
    rfl
  | true =>
    rw [hb] at gR
    by_cases h1 : 1 ≤ r.act
    · by_cases h2 : r.act ≤ 255
      · repeat' (first | ((first | apply LT.cons1 | (apply LT.guard1; rfl; rfl; rfl; decide)); (first | exact OpH.callF Tryz.func92 rfl rfl rfl gR rfl); (try decide)) | refine stpTab_2 ?_ | refine stp ?_ | (refine stq ?_ ?_ <;> intro _))
        refine ⟨by first | exact .inl rfl | exact .inr rfl, _, (.cons (.tmp 4 (A := .val _) rfl (fun _ h => by cases h)) .nil), ?_, rfl⟩
        simp [h1, h2, retsV]
      · repeat' (first | ((first | apply LT.cons1 | (apply LT.guard1; rfl; rfl; rfl; decide)); (first | exact OpH.callF Tryz.func92 rfl rfl rfl gR rfl); (try decide)) | refine stpTab_2 ?_ | refine stp ?_ | (refine stq ?_ ?_ <;> intro _))
        refine ⟨by first | exact .inl rfl | exact .inr rfl, _, (.cons (.tmp 4 (A := .val _) rfl (fun _ h => by cases h)) .nil), ?_, rfl⟩
        simp [h1, h2, retsV]
    · repeat' (first | ((first | apply LT.cons1 | (apply LT.guard1; rfl; rfl; rfl; decide)); (first | exact OpH.callF Tryz.func92 rfl rfl rfl gR rfl); (try decide)) | refine stpTab_2 ?_ | refine stp ?_ | (refine stq ?_ ?_ <;> intro _))
      refine ⟨by first | exact .inl rfl | exact .inr rfl, _, (.cons (.tmp 4 (A := .val _) rfl (fun _ h => by cases h)) .nil), ?_, rfl⟩
      simp [h1, retsV]
theorem arm28_1 {p : Prop} (h : p := by first | exact fm0 | exact fm53 | exact OpH.lenM (t := 77) rfl (.sl _ _) (by kernel_rfl) | exact OpH.lenM (t := 77) rfl (.row _ _ _ _) (by kernel_rfl) | exact OpH.lenM (t := 77) rfl (.full _ _) (by kernel_rfl) | exact OpH.len (t := 77) rfl slP (by kernel_rfl) | exact OpH.lenNil (t := 77) rfl (by kernel_rfl) | exact fm6 | exact OpH.indexS (t := 77) (k := 4) rfl slP rfl rfl (by kernel_rfl) (map_at bd) rfl | exact loadC4 (t := 118) rfl (by kernel_rfl) | exact loadB4 (t := 118) rfl rfl (by kernel_rfl) rfl | exact fm56 | exact fm3 | exact fm8 | exact fm9 | exact OpH.fieldC (s := 118) (f := 0) (off := 0) rfl (by kernel_rfl) rfl | exact OpH.fieldB (s := 118) (f := 0) (off := 0) rfl (by kernel_rfl) rfl | exact fm59 | exact fm2 | exact fm54 | exact fm55 | exact fm4 | exact fm1 | exact fm5 | fail) : p := h
theorem stpTab_3 {G G' : Prop} (h' : G') (h : Hidd G' → G := by (first | (intro h; (first | refine CT.seqD (id := 4) 25 (by kernel_rfl) (by kernel_rfl) ?_ | refine CT.draw (id := 4) 25 (by kernel_rfl) (by kernel_rfl) ?_ | ((first | apply LT.cons1 | (apply LT.guard1; rfl; rfl; rfl; decide) | apply HT.cons1 | (apply HT.guard1; rfl; rfl; rfl)); exact arm28_1; (try decide))); exact h.1) | fail)) : G := h ⟨h'⟩
set_option maxRecDepth 100000 in
set_option maxHeartbeats 2000000 in
theorem g_rTable (rs : List Rte) (b : Bool) (hb : b = true ↔ TableR rs ∧ rs.length ≤ 256) (hok : ∀ r ∈ rs, r.p.a.ok) (hl : rs.length ≤ 65536) : Good Tryz.prog 28 [.val (.int .i64 128), .sl 4 (rs.map encR)] (.val (.bool b)) := by
  refine Good.of_body (T := [(0, _), (1, _)]) Tryz.func28 rfl rfl rfl ?_
  intro K0 w0 hno
  repeat' (first | refine stpTab_3 ?_ | refine stp ?_ | (refine stq ?_ ?_ <;> intro _))
  refine CT.loopX (fun k : Nat => (⟨[(0, .val (.int .i64 128)), (1, .sl 4 (rs.map encR)), (5, .val (.int .i64 k))], [], []⟩ : St))
    (fun k => k ≤ rs.length ∧ TabTo rs k) (fun k => rs.length - k) 0 ?_ ⟨by omega, TabTo.start rs⟩ ?_
  · exact subT
  rintro k ⟨hk, hT⟩
  by_cases hlt : k < rs.length
  · have hno' : (¬ TabTo rs rs.length) → b = false := fun h => by
      cases hbb : b with
      | false => rfl
      | true => exact absurd ((TabTo.table hok).2 (hb.1 hbb).1) h
    have gR := g_r6Right rs[k] (hok _ (List.getElem_mem hlt))
    cases hr : rrRight rs[k] with
    | false =>
      rw [hr] at gR
      have hbf := hno' fun h => by rw [(h k hlt hlt).1] at hr; cases hr
      repeat' (first | ((first | apply LT.cons1 | (apply LT.guard1; rfl; rfl; rfl; decide) | apply HT.cons1 | (apply HT.guard1; rfl; rfl; rfl)); (first | exact OpH.callF Tryz.func56 rfl rfl rfl gR rfl); (try decide)) | refine stpTab_3 ?_ | refine stp ?_ | (refine stq ?_ ?_ <;> intro _))
      refine ⟨by first | exact .inl rfl | exact .inr rfl, _, (.cons (.tmp 4 (A := .val _) rfl (fun _ h => by cases h)) .nil), ?_, rfl⟩
      rw [hbf]; rfl
    | true =>
      rw [hr] at gR
      by_cases hk0 : k = 0
      · subst hk0
        repeat' (first | ((first | apply LT.cons1 | (apply LT.guard1; rfl; rfl; rfl; decide) | apply HT.cons1 | (apply HT.guard1; rfl; rfl; rfl)); (first | exact OpH.callF Tryz.func56 rfl rfl rfl gR rfl); (try decide)) | refine stpTab_3 ?_ | refine stp ?_ | (refine stq ?_ ?_ <;> intro _))
        refine ⟨0 + 1, ⟨by omega, hT.step hlt hr fun h0 => by omega⟩, by omega, ?_⟩
        exact subT
      · have hk1 : k - 1 < rs.length := by omega
        have gC := g_r2Cmp rs[k - 1].p rs[k].p (hok _ (List.getElem_mem hk1)) (hok _ (List.getElem_mem hlt))
        obtain ⟨c, hc⟩ : ∃ c, pCmp rs[k - 1].p rs[k].p = c := ⟨_, rfl⟩
        rw [hc] at gC
        by_cases hneg : c < 0
        · repeat' (first | ((first | apply LT.cons1 | (apply LT.guard1; rfl; rfl; rfl; decide) | apply HT.cons1 | (apply HT.guard1; rfl; rfl; rfl)); (first | exact OpH.callF Tryz.func56 rfl rfl rfl gR rfl | exact OpH.callF Tryz.func57 rfl rfl rfl gC rfl | exact OpH.indexS (t := 77) (k := 4) (j := k - 1) rfl slP rfl (by omega) (by kernel_rfl) (map_at hk1) rfl); (try decide)) | refine stpTab_3 ?_ | refine stp ?_ | (refine stq ?_ ?_ <;> intro _))
          refine ⟨k + 1, ⟨by omega, hT.step hlt hr fun h0 => by unfold pLt; rw [hc]; exact hneg⟩, by omega, ?_⟩
          exact subT
        · have hbf := hno' fun h => by have := (h k hlt hlt).2 (by omega); unfold pLt at this; rw [hc] at this; exact hneg this
          repeat' (first | ((first | apply LT.cons1 | (apply LT.guard1; rfl; rfl; rfl; decide) | apply HT.cons1 | (apply HT.guard1; rfl; rfl; rfl)); (first | exact OpH.callF Tryz.func56 rfl rfl rfl gR rfl | exact OpH.callF Tryz.func57 rfl rfl rfl gC rfl | exact OpH.indexS (t := 77) (k := 4) (j := k - 1) rfl slP rfl (by omega) (by kernel_rfl) (map_at hk1) rfl); (try decide)) | refine stpTab_3 ?_ | refine stp ?_ | (refine stq ?_ ?_ <;> intro _))
          refine ⟨by first | exact .inl rfl | exact .inr rfl, _, (.cons (.tmp 4 (A := .val _) rfl (fun _ h => by cases h)) .nil), ?_, rfl⟩
          rw [hbf]; rfl
  · obtain rfl : k = rs.length := by omega
    rw [TabTo.table hok] at hT
    by_cases hm : rs.length ≤ 256
    · rw [hb.2 ⟨hT, hm⟩]
      repeat' (first | refine stpTab_3 ?_ | refine stp ?_ | (refine stq ?_ ?_ <;> intro _))
      refine ⟨by first | exact .inl rfl | exact .inr rfl, _, (.cons (.tmp 4 (A := .val _) rfl (fun _ h => by cases h)) .nil), ?_, rfl⟩
      rfl
    · have hbf : b = false := by
        cases hbb : b with
        | false => rfl
        | true => exact absurd (hb.1 hbb).2 hm
      rw [hbf]
      repeat' (first | refine stpTab_3 ?_ | refine stp ?_ | (refine stq ?_ ?_ <;> intro _))
      refine ⟨by first | exact .inl rfl | exact .inr rfl, _, (.cons (.tmp 4 (A := .val _) rfl (fun _ h => by cases h)) .nil), ?_, rfl⟩
      rfl
theorem arm6_1 {p : Prop} (h : p := by first | exact fm0 | exact fm53 | exact fm43 | exact fm5 | exact fm54 | exact fm55 | fail) : p := h
set_option maxRecDepth 100000 in
set_option maxHeartbeats 2000000 in
theorem g_law9Table (rs : List Rte) (b : Bool) (hb : b = true ↔ TableR rs ∧ rs.length ≤ 24) (hok : ∀ r ∈ rs, r.p.a.ok) (hl : rs.length ≤ 9223372036854775807) : Good Tryz.prog 6 [.sl 4 (rs.map encR)] (.val (.bool b)) := by
  refine Good.of_body (T := [(0, _)]) Tryz.func6 rfl rfl rfl ?_
  intro K0 w0 hno
  by_cases hm : rs.length ≤ 24
  · have gO := g_law6Of rs (by omega)
    have gT := g_rTable rs b (by rw [hb]; exact ⟨fun h => ⟨h.1, by omega⟩, fun h => ⟨h.1, hm⟩⟩) hok (by omega)
    repeat' (first | ((first | apply LT.cons1 | (apply LT.guard1; rfl; rfl; rfl; decide)); (first | exact OpH.callFW Tryz.func29 rfl rfl rfl gO | exact OpH.callF Tryz.func28 rfl rfl rfl gT rfl); (try decide)) | ((first | apply LT.cons1 | (apply LT.guard1; rfl; rfl; rfl; decide)); exact arm6_1; (try decide)) | refine stp ?_ | (refine stq ?_ ?_ <;> intro _))
    refine ⟨by first | exact .inl rfl | exact .inr rfl, _, (.cons (.tmp 2 (A := .val _) rfl (fun _ h => by cases h)) .nil), ?_, rfl⟩
    rfl
  · have hbf : b = false := by
      cases hbb : b with
      | false => rfl
      | true => exact absurd (hb.1 hbb).2 hm
    rw [hbf]
    repeat' (first | ((first | apply LT.cons1 | (apply LT.guard1; rfl; rfl; rfl; decide)); exact arm6_1; (try decide)) | refine stp ?_ | (refine stq ?_ ?_ <;> intro _))
    refine ⟨by first | exact .inl rfl | exact .inr rfl, _, (.cons (.tmp 2 (A := .val _) rfl (fun _ h => by cases h)) .nil), ?_, rfl⟩
    rfl
end Go.Proofs.YtjmnnkhdadoehaaGreat

/- prune.Keep. -/
namespace Go.Proofs.YtjmnnkhdadoehaaGreat
set_option linter.unusedSimpArgs false
set_option linter.unusedVariables false
open Go Go.RowKit Go.Shelf
theorem cov_iff {p q : Pfx} : rpCovers p q = true ↔ PCov p q := by
  unfold rpCovers PCov
  rw [Bool.and_eq_true, decide_eq_true_eq]
attribute [local irreducible] OpH OpT LT CT HT Good
theorem arm66_1 {p : Prop} (h : p := by first | exact fm0 | exact fm32 | exact fm23 | exact fm60 | fail) : p := h
set_option maxRecDepth 100000 in
set_option maxHeartbeats 2000000 in
theorem g_keep1 (x r : Rte) (hx : x.p.a.ok) (hr : r.p.a.ok) : Good Tryz.prog 66 [.val (.agg #[.int .u64 x.p.a.x, .int .u64 x.p.a.y, .int .i64 x.p.len, .int .i64 x.act]), .cptr (encR r)] (.val (.bool (rpCovers x.p r.p))) := by
  have gC := g_pCovers x.p r.p hx hr
  refine Good.of_body (T := [(0, _), (1, _)]) Tryz.func66 rfl rfl rfl ?_
  intro K0 w0 hno
  repeat' (first | (apply LT.cons1; (first | exact OpH.callF Tryz.func55 rfl rfl rfl gC rfl); (try decide)) | (refine LT.consT ?_; (first | refine T.box (e := 67) (cs := [.val _, .val _, .val _, .val _]) rfl rfl (by decide) rfl rfl ?_)) | (apply LT.cons1; exact arm66_1; (try decide)) | refine stp ?_ | (refine stq ?_ ?_ <;> intro _))
  refine ⟨by first | exact .inl rfl | exact .inr rfl, _, (.cons (.tmp 3 (A := .val _) rfl (fun _ h => by cases h)) .nil), ?_, rfl⟩
  rfl
theorem arm34_1 {p : Prop} (h : p := by first | exact fm0 | exact fm53 | exact fm43 | exact OpH.lenA (t := 22) rfl rfl (by kernel_rfl) (List.length_map _) | exact OpH.lenA (t := 22) rfl rfl (by kernel_rfl) rfl | exact fm6 | exact fm38 | exact OpH.indexA (t := 22) (k := 4) rfl rfl rfl rfl (by kernel_rfl) bd | exact fm62 | exact OpH.loadA (t := 67) (vs := [_, _, _, _]) rfl rfl rfl (map_at bd) (by kernel_rfl) rfl rfl | exact OpH.mkfn | exact OpH.mkclo1 rfl | exact OpH.mkclo2 rfl rfl | exact fm3 | exact fm8 | exact fm9 | exact fm56 | exact fm54 | exact fm55 | exact OpH.subHi (t := 22) (k := 4) rfl slP (by kernel_rfl) rfl rfl bd | exact fm33 | exact fm24 | exact OpH.fieldA (s := 67) (f := 1) (off := 3) rfl (by kernel_rfl) rfl | exact fm50 | exact fm48 | exact fm1 | exact lit_22_1 rfl | exact fm4 | fail) : p := h
theorem stpKeepA_1 {G G' : Prop} (h' : G') (h : Hidd G' → G := by (first | (intro h; (first | refine CT.seqD (id := 8) 14 (by kernel_rfl) (by kernel_rfl) ?_ | refine CT.draw (id := 8) 14 (by kernel_rfl) (by kernel_rfl) ?_ | (refine LT.consT ?_; (first | refine T.alloc (e := 67) (z := .agg #[.int .u64 0, .int .u64 0, .int .i64 0, .int .i64 0]) (cs := [.val (.int .u64 0), .val (.int .u64 0), .val (.int .i64 0), .val (.int .i64 0)]) (by kernel_rfl) rfl (by decide) rfl rfl ?_ | refine T.storeA (t := 67) rfl rfl rfl rfl (map_at bd) (by kernel_rfl) (by kernel_rfl) (Nat.le_of_ble_eq_true (by kernel_rfl)) rfl rfl rfl ?_ | refine T.store (t := 67) rfl rfl rfl (by kernel_rfl) (by kernel_rfl) (Nat.le_of_ble_eq_true (by kernel_rfl)) rfl rfl ?_ | refine T.cutA (t := 22) (k := 4) rfl rfl rfl rfl (by kernel_rfl) bd (by decide) rfl rfl rfl ?_ | refine T.appNil (t := 22) (e := 67) (k := 4) (bytes := 32) rfl rfl srP (by kernel_rfl) szP (by decide) rfl ?_ | refine T.appA (t := 22) (e := 67) (k := 4) (bytes := 32) rfl rfl rfl srP (by kernel_rfl) szP (by decide) rfl rfl ?_ | refine T.app (t := 22) (e := 67) (k := 4) (bytes := 32) rfl rfl srP (by kernel_rfl) szP (by decide) rfl rfl ?_)) | ((first | apply LT.cons1 | (apply LT.guard1; rfl; rfl; rfl; decide) | apply HT.cons1 | (apply HT.guard1; rfl; rfl; rfl)); exact arm34_1; (try decide))); exact h.1) | fail)) : G := h ⟨h'⟩
set_option maxRecDepth 100000 in
set_option maxHeartbeats 4000000 in
theorem g_Keep (rs : List Rte) (ht : TableR rs) (hl : rs.length ≤ 4096) : Good Tryz.prog 34 [.sl 4 (rs.map encR)] (.row 3 67 4 ((keepR rs).map encR)) := by
  refine Good.of_body (T := [(0, _)]) Tryz.func34 rfl rfl rfl ?_
  intro K0 w0 hno
  repeat' (first | refine stpKeepA_1 ?_ | refine stp ?_ | (refine stq ?_ ?_ <;> intro _))
  refine CT.mkarr 4 1000 67 4 rfl (by decide) rfl ?_
  refine CT.loopX (fun q : Nat × List Rte × List Rte => (⟨[(3, .row 3 67 4 (q.2.2.map encR)), (4, .arow 1000), (8, .sl 4 (rs.map encR)), (9, .val (.int .i64 rs.length)), (10, .val (.int .i64 q.1))], [], [(1000, ⟨67, 4, q.2.1.map encR⟩)]⟩ : St))
    (fun q => q.1 ≤ rs.length ∧ q.2.1.length ≤ q.1 ∧ q.2.2.length ≤ q.1 ∧ Run rs q.1 q.2.1 q.2.2) (fun q => rs.length - q.1) (0, [], []) ?_ ⟨by dsimp only; omega, Nat.le_refl _, Nat.le_refl _, Run.start rs⟩ ?_
  · exact subT
  rintro ⟨i, op, out⟩ ⟨hi, hopl, houtl, hR⟩
  dsimp only at hi hopl houtl hR ⊢
  by_cases hlt : i < rs.length
  · repeat' (first | refine stpKeepA_1 ?_ | refine stp ?_ | (refine stq ?_ ?_ <;> intro _))
    refine CT.loopX (fun m : Nat => (⟨[(3, .row 3 67 4 (out.map encR)), (4, .arow 1000), (6, .ptr 6 0), (7, .cloB 66 [(6, 0)]), (8, .sl 4 (rs.map encR)), (9, .val (.int .i64 rs.length)), (10, .val (.int .i64 i))], [(6, (encR rs[i]).map AV.val)], [(1000, ⟨67, 4, (op.take m).map encR⟩)]⟩ : St))
      (fun m => m ≤ op.length ∧ ∀ (j : Nat) (hj : j < op.length), m ≤ j → ¬ PCov op[j].p rs[i].p) (fun m => m) op.length ?_ ⟨Nat.le_refl _, fun j hj h => by omega⟩ ?_
    · rw [List.take_length]
      exact subT
    rintro m ⟨hm, hnc⟩
    cases m with
    | zero =>
      rw [List.take_zero]
      repeat' (first | refine stpKeepA_1 ?_ | refine stp ?_ | (refine stq ?_ ?_ <;> intro _))
      refine ⟨(i + 1, op.take 0 ++ [rs[i]], out ++ [rs[i]]), ⟨by dsimp only; omega, by simp, by simp; omega, hR.put ht hlt hm hnc fun h0 => by omega⟩, by dsimp only; omega, ?_⟩
      dsimp only
      rw [List.take_zero]
      exact subT
    | succ m =>
      have hmo : m < op.length := by omega
      have hml : (op.take (m + 1)).length = m + 1 := by rw [List.length_take]; omega
      have hmt : m < (op.take (m + 1)).length := by omega
      have hge : (op.take (m + 1))[m] = op[m] := List.getElem_take
      have hcut : ((op.take (m + 1)).map encR).take m = (op.take m).map encR := by
        rw [← List.map_take, List.take_take, Nat.min_eq_left (by omega)]
      have hco : Canon op[m].p := ht.canon _ (List.mem_of_mem_take (hR.kept.sub _ (hR.sub _ (List.getElem_mem hmo))))
      have gK := g_keep1 (op.take (m + 1))[m] rs[i] (by rw [hge]; exact hco.ok) (ht.canon _ (List.getElem_mem hlt)).ok
      by_cases hc : PCov op[m].p rs[i].p
      · rw [show rpCovers (op.take (m + 1))[m].p rs[i].p = true by rw [hge]; exact cov_iff.2 hc] at gK
        by_cases hact : op[m].act = rs[i].act
        · have hact' : (op.take (m + 1))[m].act = rs[i].act := by rw [hge]; exact hact
          repeat' (first | ((first | apply LT.cons1 | (apply LT.guard1; rfl; rfl; rfl; decide) | apply HT.cons1 | (apply HT.guard1; rfl; rfl; rfl)); (first | exact OpH.indexA (t := 22) (k := 4) (j := m) rfl rfl rfl (by omega) (by kernel_rfl) (by rw [List.length_map]; omega) | exact OpH.callD (v := .bool true) rfl rfl Tryz.func66 rfl rfl rfl gK); (try decide)) | refine stpKeepA_1 ?_ | refine stp ?_ | (refine stq ?_ ?_ <;> intro _))
          refine ⟨(i + 1, op.take (m + 1), out), ⟨by dsimp only; omega, by dsimp only; omega, by dsimp only; omega, hR.skip ht hlt hm (by omega) hnc hc hact⟩, by dsimp only; omega, ?_⟩
          dsimp only
          exact subT
        · have hact' : ¬ (op.take (m + 1))[m].act = rs[i].act := by rw [hge]; exact hact
          repeat' (first | ((first | apply LT.cons1 | (apply LT.guard1; rfl; rfl; rfl; decide) | apply HT.cons1 | (apply HT.guard1; rfl; rfl; rfl)); (first | exact OpH.indexA (t := 22) (k := 4) (j := m) rfl rfl rfl (by omega) (by kernel_rfl) (by rw [List.length_map]; omega) | exact OpH.callD (v := .bool true) rfl rfl Tryz.func66 rfl rfl rfl gK); (try decide)) | refine stpKeepA_1 ?_ | refine stp ?_ | (refine stq ?_ ?_ <;> intro _))
          refine ⟨(i + 1, op.take (m + 1) ++ [rs[i]], out ++ [rs[i]]), ⟨by dsimp only; omega, by simp; omega, by simp; omega, hR.put ht hlt hm hnc fun _ => ⟨hc, hact⟩⟩, by dsimp only; omega, ?_⟩
          dsimp only
          exact subT
      · rw [show rpCovers (op.take (m + 1))[m].p rs[i].p = false by
          rw [hge]
          cases hq : rpCovers op[m].p rs[i].p with
          | false => rfl
          | true => exact absurd (cov_iff.1 hq) hc] at gK
        repeat' (first | (refine LT.consT ?_; refine T.cutA (m := m) (t := 22) (k := 4) rfl rfl rfl (by omega) (by kernel_rfl) (by rw [List.length_map]; omega) (by decide) rfl rfl rfl ?_) | ((first | apply LT.cons1 | (apply LT.guard1; rfl; rfl; rfl; decide) | apply HT.cons1 | (apply HT.guard1; rfl; rfl; rfl)); (first | exact OpH.indexA (t := 22) (k := 4) (j := m) rfl rfl rfl (by omega) (by kernel_rfl) (by rw [List.length_map]; omega) | exact OpH.callD (v := .bool false) rfl rfl Tryz.func66 rfl rfl rfl gK); (try decide)) | refine stpKeepA_1 ?_ | refine stp ?_ | (refine stq ?_ ?_ <;> intro _))
        refine ⟨m, ⟨by omega, fun j hj hle => ?_⟩, by omega, ?_⟩
        · by_cases e : j = m
          · subst e; exact hc
          · exact hnc j hj (by omega)
        · rw [hcut]
          exact subT
  · obtain rfl : i = rs.length := by omega
    have hk := keepR_is ht hR.done
    repeat' (first | refine stpKeepA_1 ?_ | refine stp ?_ | (refine stq ?_ ?_ <;> intro _))
    refine ⟨by first | exact .inl rfl | exact .inr rfl, _, (.cons (.tmp 2 (A := .row _ _ _ _) rfl (fun _ h => by cases h)) .nil), ?_, rfl⟩
    rw [hk]
    rfl
end Go.Proofs.YtjmnnkhdadoehaaGreat
