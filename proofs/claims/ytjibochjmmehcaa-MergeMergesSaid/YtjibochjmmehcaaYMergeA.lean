/- Merging, in plain Lean; merge.two. -/
import Derived.Test.YtjibochjmmehcaaYWalkM
import Derived.Test.YtjibochjmmehcaaYAbs8
import Derived.Test.YtjibochjmmehcaaYWalkS
import Derived.Test.YtjibochjmmehcaaYAbs15
namespace Go.Proofs.Ytjibochjmmehcaa
set_option linter.unusedSimpArgs false
set_option linter.unusedVariables false
open Go Go.RowKit Go.Shelf
theorem dif_eq {x y : W2} (hx : x.ok) (hy : y.ok) {i : Nat} : abit (aDiffer x.v y.v x.m) i = mDif x y i := by
  unfold aDiffer mDif
  rw [abit_and (ok_xor hx.1 hy.1) hx.2, abit_xor hx.1 hy.1, Bool.and_comm]
theorem mergeIs_ref {x y : W2} (hx : x.ok) (hy : y.ok) : rMergeIs x y = wMergeIs x y := by
  unfold rMergeIs wMergeIs
  rw [aOnes_cnt (a := aDiffer x.v y.v x.m) (ok_and (ok_xor hx.1 hy.1) hx.2), cntTo_congr 128 fun i _ => (dif_eq hx hy (i := i))]
  congr 1
  rw [decide_eq_decide]
  omega
theorem mergeW_ref {x y : W2} (hx : x.ok) (hy : y.ok) : rMergeW x y = wMergeW x y := by
  have hI := mergeIs_ref hx hy
  unfold rMergeW wMergeW
  rw [hI]
  split
  · rename_i h
    rw [← hI] at h
    unfold rMergeIs at h
    simp only [Bool.and_eq_true, decide_eq_true_eq] at h
    obtain ⟨kk, h1, h2, h3, h4⟩ := lastTo_one 128 h.2
    have hd : (aDiffer x.v y.v x.m).ok := ok_and (ok_xor hx.1 hy.1) hx.2
    have hb : ∀ i, i < 128 → abit (aXor x.m (aDiffer x.v y.v x.m)) i = (abit x.m i && !decide ((i : Int) = lastTo (mDif x y) 128)) := fun i hi => by
      rw [abit_xor hx.2 hd, dif_eq hx hy, h2]
      by_cases e : i = kk
      · subst e
        have hm : abit x.m i = true := by unfold mDif at h3; cases hq : abit x.m i <;> simp_all
        rw [h3, hm]; simp
      · rw [h4 i hi e]
        have : ¬ ((i : Int) = (kk : Int)) := by omega
        simp [this]
    have w1 : (words fun i => mV x 128 i && !decide ((i : Int) = lastTo (mDif x y) 128)) = aAnd x.v (aXor x.m (aDiffer x.v y.v x.m)) := by
      refine ok_ext (words_ok _) (ok_and hx.1 (ok_xor hx.2 hd)) fun i hi => ?_
      rw [words_bit _ hi, abit_and hx.1 (ok_xor hx.2 hd), hb i hi]
      unfold mV
      rw [if_pos hi, Bool.and_assoc]
    have w2 : (words fun i => abit x.m i && !decide ((i : Int) = lastTo (mDif x y) 128)) = aXor x.m (aDiffer x.v y.v x.m) := by
      refine ok_ext (words_ok _) (ok_xor hx.2 hd) fun i hi => ?_
      rw [words_bit _ hi, hb i hi]
    rw [w1, w2]
    rfl
  · rfl
theorem wMerge_ok {x y : W2} (hx : x.ok) (hy : y.ok) : (wMergeW x y).ok := by
  unfold wMergeW
  split
  · exact ⟨ok_and hx.1 (ok_xor hx.2 (ok_and (ok_xor hx.1 hy.1) hx.2)), ok_xor hx.2 (ok_and (ok_xor hx.1 hy.1) hx.2)⟩
  · exact ⟨ok_zero, ok_zero⟩
/-! ### The first two that merge -/
def goodP (l : List Ent) (i k : Nat) : Bool := decide ((nth l k).len = (nth l i).len) && (decide ((nth l k).act = (nth l i).act) && wMergeIs (nth l i).w (nth l k).w)
def fst2 (l : List Ent) : Option (Nat × Nat) := (List.range l.length).findSome? fun i => ((List.range l.length).find? fun k => decide (i < k) && goodP l i k).map fun k => (i, k)
def ClearG (l : List Ent) (i k : Nat) : Prop := ∀ p q, p < q → q < l.length → (p < i ∨ p = i ∧ q < k) → goodP l p q = false
theorem fst2_spec {l : List Ent} {i k : Nat} (h : fst2 l = some (i, k)) : i < k ∧ k < l.length ∧ goodP l i k = true := by
  unfold fst2 at h
  obtain ⟨a, ha, hb⟩ := List.exists_of_findSome?_eq_some h
  rw [Option.map_eq_some_iff] at hb
  obtain ⟨k', hk, e⟩ := hb
  injection e with e1 e2
  subst e1 e2
  have h1 := List.find?_some hk
  have h2 := List.mem_of_find?_eq_some hk
  simp only [Bool.and_eq_true, decide_eq_true_eq] at h1
  exact ⟨h1.1, List.mem_range.1 h2, h1.2⟩
theorem fst2_none {l : List Ent} (h : ClearG l l.length 0) : fst2 l = none := by
  cases hf : fst2 l with
  | none => rfl
  | some p =>
    obtain ⟨i, k⟩ := p
    obtain ⟨h1, h2, h3⟩ := fst2_spec hf
    rw [h i k h1 h2 (.inl (by omega))] at h3; cases h3
theorem fst2_clear {l : List Ent} {i k : Nat} (h : fst2 l = some (i, k)) : ClearG l i k := by
  intro p q hpq hq hlt
  cases hg : goodP l p q with
  | false => rfl
  | true =>
    exfalso
    obtain ⟨h1, h2, h3⟩ := fst2_spec h
    unfold fst2 at h
    have hr : ∀ m, (List.range' 0 m) = List.range m := fun m => by rw [List.range_eq_range']
    rw [List.findSome?_eq_some_iff] at h
    obtain ⟨us, a, bs, e, hb, hno⟩ := h
    rw [Option.map_eq_some_iff] at hb
    obtain ⟨k', hk, e2⟩ := hb
    injection e2 with e3 e4
    subst e3 e4
    have has : ∀ x, x ∈ us ↔ x < a := by
      have hl : us.length = a := by
        have := congrArg (fun z => z[us.length]?) e
        simp only [List.getElem?_append_right (Nat.le_refl _), Nat.sub_self, List.getElem?_cons_zero] at this
        have hlt2 : us.length < l.length := by
          have := congrArg List.length e
          simp at this; omega
        rw [List.getElem?_range hlt2] at this
        exact Option.some.inj this
      intro x
      constructor
      · intro hx
        obtain ⟨j, hj, rfl⟩ := List.mem_iff_getElem.1 hx
        have := congrArg (fun z => z[j]?) e
        simp only [List.getElem?_append_left hj, List.getElem?_eq_getElem hj] at this
        have hjl : j < l.length := by
          have := congrArg List.length e
          simp at this; omega
        rw [List.getElem?_range hjl] at this
        have := Option.some.inj this
        omega
      · intro hx
        have hjl : x < l.length := by omega
        have hxa : x < us.length := by omega
        have := congrArg (fun z => z[x]?) e
        simp only [List.getElem?_append_left hxa, List.getElem?_eq_getElem hxa] at this
        rw [List.getElem?_range hjl] at this
        rw [Option.some.inj this]
        exact List.getElem_mem hxa
    rcases hlt with hlt | ⟨rfl, hlt⟩
    · have := hno p ((has p).2 hlt)
      rw [Option.map_eq_none_iff, List.find?_eq_none] at this
      have := this q (List.mem_range.2 hq)
      simp [hpq, hg] at this
    · rw [List.find?_eq_some_iff_append] at hk
      obtain ⟨_, xs, ys, e5, hno2⟩ := hk
      have hql : q ∈ xs := by
        have hm : q ∈ xs ++ k' :: ys := by rw [← e5]; exact List.mem_range.2 hq
        rcases List.mem_append.1 hm with hm | hm
        · exact hm
        · exfalso
          have hp : (xs ++ k' :: ys).Pairwise (· < ·) := by rw [← e5]; exact List.pairwise_lt_range
          have h4 := (List.pairwise_cons.1 (List.pairwise_append.1 hp).2.1).1
          rcases List.mem_cons.1 hm with e6 | hm
          · omega
          · have := h4 q hm; omega
      have := hno2 q hql
      simp [hpq, hg] at this
theorem fst2_some {l : List Ent} {i k : Nat} (h1 : i < k) (h2 : k < l.length) (h3 : goodP l i k = true) (h4 : ClearG l i k) : fst2 l = some (i, k) := by
  cases hf : fst2 l with
  | none =>
    exfalso
    unfold fst2 at hf
    rw [List.findSome?_eq_none_iff] at hf
    have := hf i (List.mem_range.2 (by omega))
    rw [Option.map_eq_none_iff, List.find?_eq_none] at this
    have := this k (List.mem_range.2 h2)
    simp [h1, h3] at this
  | some p =>
    obtain ⟨i', k'⟩ := p
    obtain ⟨q1, q2, q3⟩ := fst2_spec hf
    have q4 := fst2_clear hf
    have a1 : ¬ (i' < i ∨ i' = i ∧ k' < k) := fun hc => by rw [h4 i' k' q1 q2 hc] at q3; cases q3
    have a2 : ¬ (i < i' ∨ i = i' ∧ k < k') := fun hc => by rw [q4 i k h1 h2 hc] at h3; cases h3
    have e1 : i' = i := by omega
    subst e1
    have e2 : k' = k := by omega
    rw [e2]
end Go.Proofs.Ytjibochjmmehcaa

/- merge.two, merge.Merge. -/
namespace Go.Proofs.Ytjibochjmmehcaa
set_option linter.unusedSimpArgs false
set_option linter.unusedVariables false
open Go Go.RowKit Go.Shelf
/-- Longer ones stand ahead. -/
def Desc (l : List Ent) : Prop := ∀ (i j : Nat) (hi : i < l.length) (hj : j < l.length), i < j → l[j].len ≤ l[i].len
theorem sortE_desc (l : List Ent) : Desc (sortE l) := fun i j hi hj hij => by
  have h := (List.pairwise_iff_getElem.1 (sortE_pairwise l)) i j hi hj hij
  unfold eLe at h
  simp only [decide_eq_true_eq] at h
  rw [eCmp_lex] at h
  unfold lexKey at h
  rcases h with h | ⟨h, _⟩ <;> omega
theorem ClearG.step {l : List Ent} {i k : Nat} (h : ClearG l i k) (hg : goodP l i k = false) : ClearG l i (k + 1) := fun p q h1 h2 h3 => by
  by_cases e : p = i ∧ q = k
  · rw [e.1, e.2]; exact hg
  · exact h p q h1 h2 (by omega)
theorem ClearG.low {l : List Ent} {i k : Nat} (h : ClearG l i 0) (hk : k ≤ i + 1) : ClearG l i k := fun p q h1 h2 h3 => h p q h1 h2 (by omega)
theorem ClearG.next {l : List Ent} {i k : Nat} (h : ClearG l i k) (hr : ∀ q, k ≤ q → q < l.length → goodP l i q = false) : ClearG l (i + 1) 0 := fun p q h1 h2 h3 => by
  by_cases e : p = i
  · by_cases hq : q < k
    · exact h p q h1 h2 (.inr ⟨e, hq⟩)
    · rw [e]; exact hr q (by omega) h2
  · exact h p q h1 h2 (by omega)
theorem good_at {l : List Ent} {i k : Nat} (hi : i < l.length) (hk : k < l.length) : goodP l i k = (decide (l[k].len = l[i].len) && (decide (l[k].act = l[i].act) && wMergeIs l[i].w l[k].w)) := by
  unfold goodP; rw [nth_at l hi, nth_at l hk]
/-- What merge.two gives. -/
def twoI (l : List Ent) : Int := match fst2 l with | some p => (p.1 : Int) | none => 0
def twoK (l : List Ent) : Int := match fst2 l with | some p => (p.2 : Int) | none => 0
def twoW (l : List Ent) : W2 := match fst2 l with | some p => wMergeW (nth l p.1).w (nth l p.2).w | none => ⟨⟨0, 0⟩, ⟨0, 0⟩⟩
def twoIs (l : List Ent) : Bool := (fst2 l).isSome
attribute [local irreducible] OpH OpT LT CT HT Good
theorem arm31_1 {p : Prop} (h : p := by first | exact OpH.assign (v := .val _) rfl | exact OpH.assign (v := .sl _ _) rfl | exact OpH.assign (v := .row _ _ _ _) rfl | exact OpH.assign (v := .full _ _) rfl | exact OpH.assign (v := .ptr _ _) rfl | exact OpH.assign (v := .cptr _) rfl | exact OpH.assign (v := .cloB _ _) rfl | exact OpH.assign (v := .clo _ _) rfl | exact OpH.assign (v := .pr _) rfl | exact OpH.assign (v := .arow _) rfl | exact OpH.assign (v := .aptr _ _ _ _) rfl | exact OpH.assign (v := .asub _ _ _ _) rfl | exact OpH.assign (v := .tup _) rfl | exact OpH.move (v := .val _) rfl | exact OpH.move (v := .sl _ _) rfl | exact OpH.move (v := .row _ _ _ _) rfl | exact OpH.move (v := .full _ _) rfl | exact OpH.move (v := .ptr _ _) rfl | exact OpH.move (v := .cptr _) rfl | exact OpH.move (v := .cloB _ _) rfl | exact OpH.move (v := .clo _ _) rfl | exact OpH.move (v := .pr _) rfl | exact OpH.move (v := .arow _) rfl | exact OpH.move (v := .aptr _ _ _ _) rfl | exact OpH.move (v := .asub _ _ _ _) rfl | exact OpH.move (v := .tup _) rfl | exact OpH.lenM (t := 22) rfl (.sl _ _) (by kernel_rfl) | exact OpH.lenM (t := 22) rfl (.row _ _ _ _) (by kernel_rfl) | exact OpH.lenM (t := 22) rfl (.full _ _) (by kernel_rfl) | exact OpH.len (t := 22) rfl slP (by kernel_rfl) | exact OpH.lenNil (t := 22) rfl (by kernel_rfl) | exact OpH.bin rfl rfl (pb_lss_t (by omega)) | exact OpH.bin rfl rfl (pb_lss_f (by omega)) | exact OpH.bin rfl rfl (pb_lss) | exact OpH.indexS (t := 22) (k := 6) rfl slP rfl rfl (by kernel_rfl) (map_at bd) rfl | exact loadC6 (t := 45) rfl (by kernel_rfl) | exact loadB6 (t := 45) rfl rfl (by kernel_rfl) rfl | exact OpH.bin rfl rfl (pb_inc (by omega)) | exact OpH.bin rfl rfl (pb_addN rfl (by omega)) | exact OpH.bin rfl rfl (pb_add (by omega)) | exact OpH.bin rfl rfl (pb_addw) | exact OpH.fieldC (s := 45) (f := 1) (off := 4) rfl (by kernel_rfl) rfl | exact OpH.fieldB (s := 45) (f := 1) (off := 4) rfl (by kernel_rfl) rfl | exact OpH.loadC1 (t := 3) rfl (by kernel_rfl) rfl | exact OpH.loadB1 (t := 3) rfl rfl (by kernel_rfl) rfl | exact OpH.bin rfl rfl (pb_eql_t (by first | omega | assumption)) | exact OpH.bin rfl rfl (pb_eql_f (by first | omega | assumption)) | exact OpH.bin rfl rfl (pb_eql) | exact OpH.pick (b := true) (v := .val _) rfl rfl | exact OpH.pick (b := false) (v := .val _) rfl rfl | exact OpH.pick (b := true) (v := .sl _ _) rfl rfl | exact OpH.pick (b := false) (v := .sl _ _) rfl rfl | exact OpH.pick (b := true) (v := .row _ _ _ _) rfl rfl | exact OpH.pick (b := false) (v := .row _ _ _ _) rfl rfl | exact OpH.pick (b := true) (v := .full _ _) rfl rfl | exact OpH.pick (b := false) (v := .full _ _) rfl rfl | exact OpH.pickV rfl rfl rfl | exact OpH.fieldC (s := 45) (f := 2) (off := 5) rfl (by kernel_rfl) rfl | exact OpH.fieldB (s := 45) (f := 2) (off := 5) rfl (by kernel_rfl) rfl | exact OpH.bin rfl rfl (pb_neq_t (by first | omega | assumption)) | exact OpH.bin rfl rfl (pb_neq_f (by first | omega | assumption)) | exact OpH.bin rfl rfl (pb_neq) | exact OpH.fieldC (s := 45) (f := 0) (off := 0) rfl (by kernel_rfl) rfl | exact OpH.fieldB (s := 45) (f := 0) (off := 0) rfl (by kernel_rfl) rfl | exact loadC4 (t := 43) rfl (by kernel_rfl) | exact loadB4 (t := 43) rfl rfl (by kernel_rfl) rfl | exact OpH.extract (v := .val _) rfl rfl (fun _ h => by cases h) | exact OpH.extract (v := .sl _ _) rfl rfl (fun _ h => by cases h) | exact OpH.extract (v := .row _ _ _ _) rfl rfl (fun _ h => by cases h) | exact OpH.extract (v := .full _ _) rfl rfl (fun _ h => by cases h) | exact build_43_  | exact OpH.build (t := 43) (cells := #[_, _, _, _]) (by kernel_rfl) rfl) : p := h
set_option maxRecDepth 100000 in
set_option maxHeartbeats 4000000 in
theorem g_two (l : List Ent) (hd : Desc l) (hok : ∀ x ∈ l, x.w.ok) (hl : l.length ≤ 65536) : Good Try.prog 31 [.sl 6 (l.map encE)] (.tup [.val (.int .i64 (twoI l)), .val (.int .i64 (twoK l)), .val (.agg #[.int .u64 (twoW l).v.x, .int .u64 (twoW l).v.y, .int .u64 (twoW l).m.x, .int .u64 (twoW l).m.y]), .val (.bool (twoIs l))]) := by
  refine Good.of_body (T := [(0, _)]) Try.func31 rfl rfl rfl ?_
  intro K0 w0 hno
  repeat' (first | refine CT.seqR ?_ | refine CT.seqD (id := 5) 13 (by kernel_rfl) (by kernel_rfl) ?_ | refine CT.seqD (id := 7) 7 (by kernel_rfl) (by kernel_rfl) ?_ | refine CT.seqD (id := 8) 11 (by kernel_rfl) (by kernel_rfl) ?_ | refine CT.seqD (id := 10) 5 (by kernel_rfl) (by kernel_rfl) ?_ | refine CT.draw (id := 5) 13 (by kernel_rfl) (by kernel_rfl) ?_ | refine CT.draw (id := 7) 7 (by kernel_rfl) (by kernel_rfl) ?_ | refine CT.draw (id := 8) 11 (by kernel_rfl) (by kernel_rfl) ?_ | refine CT.draw (id := 10) 5 (by kernel_rfl) (by kernel_rfl) ?_ | refine CT.region ?_ | refine CT.seq1 ?_ | refine CT.block ?_ | refine CT.condT rfl ?_ | refine CT.condF rfl ?_ | refine CT.condD rfl (fun _ => ?_) (fun _ => ?_) | refine CT.condN rfl (fun _ => ?_) (fun _ => ?_) | refine CT.cond rfl (fun _ => ?_) (fun _ => ?_) | refine CT.skip ?_ | refine CT.exit ?_ | refine CT.ret ?_ | refine CT.goto ?_ | refine CT.label ?_ | refine LT.nil ?_ | refine HT.nil1 ?_ | (refine LT.consT ?_; (first | refine T.alloc (e := 43) (z := .agg #[.int .u64 0, .int .u64 0, .int .u64 0, .int .u64 0]) (cs := [.val (.int .u64 0), .val (.int .u64 0), .val (.int .u64 0), .val (.int .u64 0)]) (by kernel_rfl) rfl (by decide) rfl rfl ?_ | refine T.alloc (e := 45) (z := .agg #[.int .u64 0, .int .u64 0, .int .u64 0, .int .u64 0, .int .i64 0, .int .i64 0]) (cs := [.val (.int .u64 0), .val (.int .u64 0), .val (.int .u64 0), .val (.int .u64 0), .val (.int .i64 0), .val (.int .i64 0)]) (by kernel_rfl) rfl (by decide) rfl rfl ?_ | refine T.store (t := 45) rfl rfl rfl (by kernel_rfl) (by kernel_rfl) (Nat.le_of_ble_eq_true (by kernel_rfl)) rfl rfl ?_ | refine T.store (t := 43) rfl rfl rfl (by kernel_rfl) (by kernel_rfl) (Nat.le_of_ble_eq_true (by kernel_rfl)) rfl rfl ?_)) | (apply LT.cons1; (first | exact arm31_1); decide) | (apply LT.guard1; rfl; rfl; rfl; decide; (first | exact arm31_1); decide) | refine LT.skip1 rfl rfl rfl (by decide) (by decide) ?_ | refine LT.skip2 rfl rfl (by decide) (by decide) ?_ | refine LT.partD rfl rfl (fun _ => ?_) (fun _ => ?_) | refine LT.partN rfl rfl (fun _ => ?_) (fun _ => ?_) | (refine LT.part1 rfl rfl (fun h => ?_) (fun h => ?_); (fail_if_success exact absurd h (by decide)); rotate_left; (fail_if_success exact absurd h (by decide)); rotate_left) | (apply HT.cons1; (first | exact arm31_1)) | (apply HT.guard1; rfl; rfl; rfl; (first | exact arm31_1)) | refine HT.skip1 rfl rfl rfl ?_ | refine HT.skip2 rfl rfl ?_ | refine HT.partD rfl rfl (fun _ => ?_) (fun _ => ?_) | refine HT.partN rfl rfl (fun _ => ?_) (fun _ => ?_) | (refine HT.part1 rfl rfl (fun h => ?_) (fun h => ?_); (fail_if_success exact absurd h (by decide)); rotate_left; (fail_if_success exact absurd h (by decide)); rotate_left))
  refine CT.loopX (fun i : Nat => (⟨[(0, .sl 6 (l.map encE)), (4, .ptr 4 0), (11, .sl 6 (l.map encE)), (12, .val (.int .i64 l.length)), (13, .val (.int .i64 i))], [(4, [.val (.int .u64 0), .val (.int .u64 0), .val (.int .u64 0), .val (.int .u64 0)])], []⟩ : St))
    (fun i => i ≤ l.length ∧ ClearG l i 0) (fun i => l.length - i) 0 ?_ ⟨by omega, fun p q h1 h2 h3 => by omega⟩ ?_
  · (apply Sub.mk; (focus (repeat (first | exact .nil | refine .other (.keep rfl rfl) ?_ | refine .other (.aref rfl rfl rfl) ?_ | refine .other (.val rfl (by first | rfl | (congr 1; first | omega | assumption | (symm; assumption)) | (simp; omega))) ?_ | refine .other .dead ?_ | refine .other (.sl rfl (.row _ _ _ _) rfl) ?_ | refine .other (.sl rfl (.sl _ _) rfl) ?_ | refine .other (.sl rfl (.full _ _) rfl) ?_ | refine .other (.slNil rfl rfl) ?_ | refine .rowNil rfl rfl rfl ?_ | refine .row rfl (by first | rfl | assumption | (rw [← List.map_append]; first | done | rfl | congr 1)) rfl rfl ?_))); (focus (repeat (first | exact .nil | refine KeepB.same rfl rfl rfl ?_ | refine KeepB.sameA rfl rfl rfl ?_))); (focus (repeat (first | exact .nil | refine KeepA.cons rfl (by first | rfl | assumption | exact List.map_set | exact List.map_set.symm | (rw [← List.map_append]; first | done | rfl | congr 1) | (congr 1; first | omega | assumption)) ?_))))
  rintro i ⟨hi, hc⟩
  by_cases hlt : i < l.length
  · repeat' (first | refine CT.seqR ?_ | refine CT.seqD (id := 5) 13 (by kernel_rfl) (by kernel_rfl) ?_ | refine CT.seqD (id := 7) 7 (by kernel_rfl) (by kernel_rfl) ?_ | refine CT.seqD (id := 8) 11 (by kernel_rfl) (by kernel_rfl) ?_ | refine CT.seqD (id := 10) 5 (by kernel_rfl) (by kernel_rfl) ?_ | refine CT.draw (id := 5) 13 (by kernel_rfl) (by kernel_rfl) ?_ | refine CT.draw (id := 7) 7 (by kernel_rfl) (by kernel_rfl) ?_ | refine CT.draw (id := 8) 11 (by kernel_rfl) (by kernel_rfl) ?_ | refine CT.draw (id := 10) 5 (by kernel_rfl) (by kernel_rfl) ?_ | refine CT.region ?_ | refine CT.seq1 ?_ | refine CT.block ?_ | refine CT.condT rfl ?_ | refine CT.condF rfl ?_ | refine CT.condD rfl (fun _ => ?_) (fun _ => ?_) | refine CT.condN rfl (fun _ => ?_) (fun _ => ?_) | refine CT.cond rfl (fun _ => ?_) (fun _ => ?_) | refine CT.skip ?_ | refine CT.exit ?_ | refine CT.ret ?_ | refine CT.goto ?_ | refine CT.label ?_ | refine LT.nil ?_ | refine HT.nil1 ?_ | (refine LT.consT ?_; (first | refine T.alloc (e := 43) (z := .agg #[.int .u64 0, .int .u64 0, .int .u64 0, .int .u64 0]) (cs := [.val (.int .u64 0), .val (.int .u64 0), .val (.int .u64 0), .val (.int .u64 0)]) (by kernel_rfl) rfl (by decide) rfl rfl ?_ | refine T.alloc (e := 45) (z := .agg #[.int .u64 0, .int .u64 0, .int .u64 0, .int .u64 0, .int .i64 0, .int .i64 0]) (cs := [.val (.int .u64 0), .val (.int .u64 0), .val (.int .u64 0), .val (.int .u64 0), .val (.int .i64 0), .val (.int .i64 0)]) (by kernel_rfl) rfl (by decide) rfl rfl ?_ | refine T.store (t := 45) rfl rfl rfl (by kernel_rfl) (by kernel_rfl) (Nat.le_of_ble_eq_true (by kernel_rfl)) rfl rfl ?_ | refine T.store (t := 43) rfl rfl rfl (by kernel_rfl) (by kernel_rfl) (Nat.le_of_ble_eq_true (by kernel_rfl)) rfl rfl ?_)) | (apply LT.cons1; (first | exact arm31_1); decide) | (apply LT.guard1; rfl; rfl; rfl; decide; (first | exact arm31_1); decide) | refine LT.skip1 rfl rfl rfl (by decide) (by decide) ?_ | refine LT.skip2 rfl rfl (by decide) (by decide) ?_ | refine LT.partD rfl rfl (fun _ => ?_) (fun _ => ?_) | refine LT.partN rfl rfl (fun _ => ?_) (fun _ => ?_) | (refine LT.part1 rfl rfl (fun h => ?_) (fun h => ?_); (fail_if_success exact absurd h (by decide)); rotate_left; (fail_if_success exact absurd h (by decide)); rotate_left) | (apply HT.cons1; (first | exact arm31_1)) | (apply HT.guard1; rfl; rfl; rfl; (first | exact arm31_1)) | refine HT.skip1 rfl rfl rfl ?_ | refine HT.skip2 rfl rfl ?_ | refine HT.partD rfl rfl (fun _ => ?_) (fun _ => ?_) | refine HT.partN rfl rfl (fun _ => ?_) (fun _ => ?_) | (refine HT.part1 rfl rfl (fun h => ?_) (fun h => ?_); (fail_if_success exact absurd h (by decide)); rotate_left; (fail_if_success exact absurd h (by decide)); rotate_left))
    refine CT.loopX (fun k : Nat => (⟨[(0, .sl 6 (l.map encE)), (4, .ptr 4 0), (6, .val (.int .i64 i)), (7, .ptr 7 0), (8, .val (.int .i64 k)), (11, .sl 6 (l.map encE)), (12, .val (.int .i64 l.length)), (13, .val (.int .i64 i))], [(4, [.val (.int .u64 0), .val (.int .u64 0), .val (.int .u64 0), .val (.int .u64 0)]), (7, (encE l[i]).map AV.val)], []⟩ : St))
      (fun k => i < k ∧ k ≤ l.length ∧ ClearG l i k) (fun k => l.length - k) (i + 1) ?_ ⟨by omega, by omega, hc.low (by omega)⟩ ?_
    · (apply Sub.mk; (focus (repeat (first | exact .nil | refine .other (.keep rfl rfl) ?_ | refine .other (.aref rfl rfl rfl) ?_ | refine .other (.val rfl (by first | rfl | (congr 1; first | omega | assumption | (symm; assumption)) | (simp; omega))) ?_ | refine .other .dead ?_ | refine .other (.sl rfl (.row _ _ _ _) rfl) ?_ | refine .other (.sl rfl (.sl _ _) rfl) ?_ | refine .other (.sl rfl (.full _ _) rfl) ?_ | refine .other (.slNil rfl rfl) ?_ | refine .rowNil rfl rfl rfl ?_ | refine .row rfl (by first | rfl | assumption | (rw [← List.map_append]; first | done | rfl | congr 1)) rfl rfl ?_))); (focus (repeat (first | exact .nil | refine KeepB.same rfl rfl rfl ?_ | refine KeepB.sameA rfl rfl rfl ?_))); (focus (repeat (first | exact .nil | refine KeepA.cons rfl (by first | rfl | assumption | exact List.map_set | exact List.map_set.symm | (rw [← List.map_append]; first | done | rfl | congr 1) | (congr 1; first | omega | assumption)) ?_))))
    clear hc
    rintro k ⟨hik, hk, hc⟩
    by_cases hkl : k < l.length
    · have hga := good_at hlt hkl
      by_cases hle : l[k].len = l[i].len
      · by_cases hac : l[k].act = l[i].act
        · rw [decide_eq_true hle, decide_eq_true hac, Bool.true_and, Bool.true_and] at hga
          have hM := g_wMerge l[i].w l[k].w (hok _ (List.getElem_mem hlt)) (hok _ (List.getElem_mem hkl))
          rw [← hga] at hM
          cases hg : goodP l i k with
          | true =>
            rw [hg] at hM
            have hf := fst2_some hik hkl hg hc
            repeat' (first | refine CT.seqR ?_ | refine CT.seqDS (id := 8) 13 (by kernel_rfl) (by kernel_rfl) ?_ | refine HS.box (e := 43) (z := .agg #[.int .u64 0, .int .u64 0, .int .u64 0, .int .u64 0]) (cs := [.val (.int .u64 0), .val (.int .u64 0), .val (.int .u64 0), .val (.int .u64 0)]) (by kernel_rfl) rfl (by decide) ?_ | refine HS.put (t := 43) (d := 9) 11 rfl rfl rfl (by kernel_rfl) (by kernel_rfl) rfl rfl ?_ | refine HS.done ⟨by kernel_rfl, ?_⟩ | (apply HS.val1; (first | exact OpH.callF Try.func55 rfl rfl rfl hM rfl | exact arm31_1)) | refine CT.seqD (id := 5) 13 (by kernel_rfl) (by kernel_rfl) ?_ | refine CT.seqD (id := 7) 7 (by kernel_rfl) (by kernel_rfl) ?_ | refine CT.seqD (id := 10) 5 (by kernel_rfl) (by kernel_rfl) ?_ | refine CT.draw (id := 5) 13 (by kernel_rfl) (by kernel_rfl) ?_ | refine CT.draw (id := 7) 7 (by kernel_rfl) (by kernel_rfl) ?_ | refine CT.draw (id := 8) 11 (by kernel_rfl) (by kernel_rfl) ?_ | refine CT.draw (id := 10) 5 (by kernel_rfl) (by kernel_rfl) ?_ | refine CT.region ?_ | refine CT.seq1 ?_ | refine CT.block ?_ | refine CT.condT rfl ?_ | refine CT.condF rfl ?_ | refine CT.condD rfl (fun _ => ?_) (fun _ => ?_) | refine CT.condN rfl (fun _ => ?_) (fun _ => ?_) | refine CT.cond rfl (fun _ => ?_) (fun _ => ?_) | refine CT.skip ?_ | refine CT.exit ?_ | refine CT.ret ?_ | refine CT.goto ?_ | refine CT.label ?_ | refine LT.nil ?_ | refine HT.nil1 ?_ | (refine LT.consT ?_; (first | refine T.alloc (e := 43) (z := .agg #[.int .u64 0, .int .u64 0, .int .u64 0, .int .u64 0]) (cs := [.val (.int .u64 0), .val (.int .u64 0), .val (.int .u64 0), .val (.int .u64 0)]) (by kernel_rfl) rfl (by decide) rfl rfl ?_ | refine T.alloc (e := 45) (z := .agg #[.int .u64 0, .int .u64 0, .int .u64 0, .int .u64 0, .int .i64 0, .int .i64 0]) (cs := [.val (.int .u64 0), .val (.int .u64 0), .val (.int .u64 0), .val (.int .u64 0), .val (.int .i64 0), .val (.int .i64 0)]) (by kernel_rfl) rfl (by decide) rfl rfl ?_ | refine T.store (t := 45) rfl rfl rfl (by kernel_rfl) (by kernel_rfl) (Nat.le_of_ble_eq_true (by kernel_rfl)) rfl rfl ?_ | refine T.store (t := 43) rfl rfl rfl (by kernel_rfl) (by kernel_rfl) (Nat.le_of_ble_eq_true (by kernel_rfl)) rfl rfl ?_)) | (apply LT.cons1; (first | exact OpH.callF Try.func55 rfl rfl rfl hM rfl | exact arm31_1); decide) | (apply LT.guard1; rfl; rfl; rfl; decide; (first | exact OpH.callF Try.func55 rfl rfl rfl hM rfl | exact arm31_1); decide) | refine LT.skip1 rfl rfl rfl (by decide) (by decide) ?_ | refine LT.skip2 rfl rfl (by decide) (by decide) ?_ | refine LT.partD rfl rfl (fun _ => ?_) (fun _ => ?_) | refine LT.partN rfl rfl (fun _ => ?_) (fun _ => ?_) | (refine LT.part1 rfl rfl (fun h => ?_) (fun h => ?_); (fail_if_success exact absurd h (by decide)); rotate_left; (fail_if_success exact absurd h (by decide)); rotate_left) | (apply HT.cons1; (first | exact OpH.callF Try.func55 rfl rfl rfl hM rfl | exact arm31_1)) | (apply HT.guard1; rfl; rfl; rfl; (first | exact OpH.callF Try.func55 rfl rfl rfl hM rfl | exact arm31_1)) | refine HT.skip1 rfl rfl rfl ?_ | refine HT.skip2 rfl rfl ?_ | refine HT.partD rfl rfl (fun _ => ?_) (fun _ => ?_) | refine HT.partN rfl rfl (fun _ => ?_) (fun _ => ?_) | (refine HT.part1 rfl rfl (fun h => ?_) (fun h => ?_); (fail_if_success exact absurd h (by decide)); rotate_left; (fail_if_success exact absurd h (by decide)); rotate_left))
            refine ⟨by first | exact .inl rfl | exact .inr rfl, _, (.cons (.tmp 2 (A := .val _) rfl (fun _ h => by cases h)) (.cons (.tmp 3 (A := .val _) rfl (fun _ h => by cases h)) (.cons (.many 4 (vs := [_, _, _, _]) rfl rfl (by kernel_rfl) rfl rfl) (.cons (.tmp 5 (A := .val _) rfl (fun _ h => by cases h)) .nil)))), ?_, rfl⟩
            simp only [twoI, twoK, twoW, twoIs, hf, nth_at l hlt, nth_at l hkl]
            rfl
          | false =>
            rw [hg] at hM
            repeat' (first | refine CT.seqR ?_ | refine CT.seqDS (id := 8) 13 (by kernel_rfl) (by kernel_rfl) ?_ | refine HS.box (e := 43) (z := .agg #[.int .u64 0, .int .u64 0, .int .u64 0, .int .u64 0]) (cs := [.val (.int .u64 0), .val (.int .u64 0), .val (.int .u64 0), .val (.int .u64 0)]) (by kernel_rfl) rfl (by decide) ?_ | refine HS.put (t := 43) (d := 9) 11 rfl rfl rfl (by kernel_rfl) (by kernel_rfl) rfl rfl ?_ | refine HS.done ⟨by kernel_rfl, ?_⟩ | (apply HS.val1; (first | exact OpH.callF Try.func55 rfl rfl rfl hM rfl | exact arm31_1)) | refine CT.seqD (id := 5) 13 (by kernel_rfl) (by kernel_rfl) ?_ | refine CT.seqD (id := 7) 7 (by kernel_rfl) (by kernel_rfl) ?_ | refine CT.seqD (id := 10) 5 (by kernel_rfl) (by kernel_rfl) ?_ | refine CT.draw (id := 5) 13 (by kernel_rfl) (by kernel_rfl) ?_ | refine CT.draw (id := 7) 7 (by kernel_rfl) (by kernel_rfl) ?_ | refine CT.draw (id := 8) 11 (by kernel_rfl) (by kernel_rfl) ?_ | refine CT.draw (id := 10) 5 (by kernel_rfl) (by kernel_rfl) ?_ | refine CT.region ?_ | refine CT.seq1 ?_ | refine CT.block ?_ | refine CT.condT rfl ?_ | refine CT.condF rfl ?_ | refine CT.condD rfl (fun _ => ?_) (fun _ => ?_) | refine CT.condN rfl (fun _ => ?_) (fun _ => ?_) | refine CT.cond rfl (fun _ => ?_) (fun _ => ?_) | refine CT.skip ?_ | refine CT.exit ?_ | refine CT.ret ?_ | refine CT.goto ?_ | refine CT.label ?_ | refine LT.nil ?_ | refine HT.nil1 ?_ | (refine LT.consT ?_; (first | refine T.alloc (e := 43) (z := .agg #[.int .u64 0, .int .u64 0, .int .u64 0, .int .u64 0]) (cs := [.val (.int .u64 0), .val (.int .u64 0), .val (.int .u64 0), .val (.int .u64 0)]) (by kernel_rfl) rfl (by decide) rfl rfl ?_ | refine T.alloc (e := 45) (z := .agg #[.int .u64 0, .int .u64 0, .int .u64 0, .int .u64 0, .int .i64 0, .int .i64 0]) (cs := [.val (.int .u64 0), .val (.int .u64 0), .val (.int .u64 0), .val (.int .u64 0), .val (.int .i64 0), .val (.int .i64 0)]) (by kernel_rfl) rfl (by decide) rfl rfl ?_ | refine T.store (t := 45) rfl rfl rfl (by kernel_rfl) (by kernel_rfl) (Nat.le_of_ble_eq_true (by kernel_rfl)) rfl rfl ?_ | refine T.store (t := 43) rfl rfl rfl (by kernel_rfl) (by kernel_rfl) (Nat.le_of_ble_eq_true (by kernel_rfl)) rfl rfl ?_)) | (apply LT.cons1; (first | exact OpH.callF Try.func55 rfl rfl rfl hM rfl | exact arm31_1); decide) | (apply LT.guard1; rfl; rfl; rfl; decide; (first | exact OpH.callF Try.func55 rfl rfl rfl hM rfl | exact arm31_1); decide) | refine LT.skip1 rfl rfl rfl (by decide) (by decide) ?_ | refine LT.skip2 rfl rfl (by decide) (by decide) ?_ | refine LT.partD rfl rfl (fun _ => ?_) (fun _ => ?_) | refine LT.partN rfl rfl (fun _ => ?_) (fun _ => ?_) | (refine LT.part1 rfl rfl (fun h => ?_) (fun h => ?_); (fail_if_success exact absurd h (by decide)); rotate_left; (fail_if_success exact absurd h (by decide)); rotate_left) | (apply HT.cons1; (first | exact OpH.callF Try.func55 rfl rfl rfl hM rfl | exact arm31_1)) | (apply HT.guard1; rfl; rfl; rfl; (first | exact OpH.callF Try.func55 rfl rfl rfl hM rfl | exact arm31_1)) | refine HT.skip1 rfl rfl rfl ?_ | refine HT.skip2 rfl rfl ?_ | refine HT.partD rfl rfl (fun _ => ?_) (fun _ => ?_) | refine HT.partN rfl rfl (fun _ => ?_) (fun _ => ?_) | (refine HT.part1 rfl rfl (fun h => ?_) (fun h => ?_); (fail_if_success exact absurd h (by decide)); rotate_left; (fail_if_success exact absurd h (by decide)); rotate_left))
            refine ⟨k + 1, ⟨by omega, by omega, hc.step hg⟩, by omega, ?_⟩
            (apply Sub.mk; (focus (repeat (first | exact .nil | refine .other (.keep rfl rfl) ?_ | refine .other (.aref rfl rfl rfl) ?_ | refine .other (.val rfl (by first | rfl | (congr 1; first | omega | assumption | (symm; assumption)) | (simp; omega))) ?_ | refine .other .dead ?_ | refine .other (.sl rfl (.row _ _ _ _) rfl) ?_ | refine .other (.sl rfl (.sl _ _) rfl) ?_ | refine .other (.sl rfl (.full _ _) rfl) ?_ | refine .other (.slNil rfl rfl) ?_ | refine .rowNil rfl rfl rfl ?_ | refine .row rfl (by first | rfl | assumption | (rw [← List.map_append]; first | done | rfl | congr 1)) rfl rfl ?_))); (focus (repeat (first | exact .nil | refine KeepB.same rfl rfl rfl ?_ | refine KeepB.sameA rfl rfl rfl ?_))); (focus (repeat (first | exact .nil | refine KeepA.cons rfl (by first | rfl | assumption | exact List.map_set | exact List.map_set.symm | (rw [← List.map_append]; first | done | rfl | congr 1) | (congr 1; first | omega | assumption)) ?_))))
        · have hg : goodP l i k = false := by rw [hga, decide_eq_false hac, Bool.false_and, Bool.and_false]
          repeat' (first | refine CT.seqR ?_ | refine CT.seqD (id := 5) 13 (by kernel_rfl) (by kernel_rfl) ?_ | refine CT.seqD (id := 7) 7 (by kernel_rfl) (by kernel_rfl) ?_ | refine CT.seqD (id := 8) 11 (by kernel_rfl) (by kernel_rfl) ?_ | refine CT.seqD (id := 10) 5 (by kernel_rfl) (by kernel_rfl) ?_ | refine CT.draw (id := 5) 13 (by kernel_rfl) (by kernel_rfl) ?_ | refine CT.draw (id := 7) 7 (by kernel_rfl) (by kernel_rfl) ?_ | refine CT.draw (id := 8) 11 (by kernel_rfl) (by kernel_rfl) ?_ | refine CT.draw (id := 10) 5 (by kernel_rfl) (by kernel_rfl) ?_ | refine CT.region ?_ | refine CT.seq1 ?_ | refine CT.block ?_ | refine CT.condT rfl ?_ | refine CT.condF rfl ?_ | refine CT.condD rfl (fun _ => ?_) (fun _ => ?_) | refine CT.condN rfl (fun _ => ?_) (fun _ => ?_) | refine CT.cond rfl (fun _ => ?_) (fun _ => ?_) | refine CT.skip ?_ | refine CT.exit ?_ | refine CT.ret ?_ | refine CT.goto ?_ | refine CT.label ?_ | refine LT.nil ?_ | refine HT.nil1 ?_ | (refine LT.consT ?_; (first | refine T.alloc (e := 43) (z := .agg #[.int .u64 0, .int .u64 0, .int .u64 0, .int .u64 0]) (cs := [.val (.int .u64 0), .val (.int .u64 0), .val (.int .u64 0), .val (.int .u64 0)]) (by kernel_rfl) rfl (by decide) rfl rfl ?_ | refine T.alloc (e := 45) (z := .agg #[.int .u64 0, .int .u64 0, .int .u64 0, .int .u64 0, .int .i64 0, .int .i64 0]) (cs := [.val (.int .u64 0), .val (.int .u64 0), .val (.int .u64 0), .val (.int .u64 0), .val (.int .i64 0), .val (.int .i64 0)]) (by kernel_rfl) rfl (by decide) rfl rfl ?_ | refine T.store (t := 45) rfl rfl rfl (by kernel_rfl) (by kernel_rfl) (Nat.le_of_ble_eq_true (by kernel_rfl)) rfl rfl ?_ | refine T.store (t := 43) rfl rfl rfl (by kernel_rfl) (by kernel_rfl) (Nat.le_of_ble_eq_true (by kernel_rfl)) rfl rfl ?_)) | (apply LT.cons1; (first | exact arm31_1); decide) | (apply LT.guard1; rfl; rfl; rfl; decide; (first | exact arm31_1); decide) | refine LT.skip1 rfl rfl rfl (by decide) (by decide) ?_ | refine LT.skip2 rfl rfl (by decide) (by decide) ?_ | refine LT.partD rfl rfl (fun _ => ?_) (fun _ => ?_) | refine LT.partN rfl rfl (fun _ => ?_) (fun _ => ?_) | (refine LT.part1 rfl rfl (fun h => ?_) (fun h => ?_); (fail_if_success exact absurd h (by decide)); rotate_left; (fail_if_success exact absurd h (by decide)); rotate_left) | (apply HT.cons1; (first | exact arm31_1)) | (apply HT.guard1; rfl; rfl; rfl; (first | exact arm31_1)) | refine HT.skip1 rfl rfl rfl ?_ | refine HT.skip2 rfl rfl ?_ | refine HT.partD rfl rfl (fun _ => ?_) (fun _ => ?_) | refine HT.partN rfl rfl (fun _ => ?_) (fun _ => ?_) | (refine HT.part1 rfl rfl (fun h => ?_) (fun h => ?_); (fail_if_success exact absurd h (by decide)); rotate_left; (fail_if_success exact absurd h (by decide)); rotate_left))
          refine ⟨k + 1, ⟨by omega, by omega, hc.step hg⟩, by omega, ?_⟩
          (apply Sub.mk; (focus (repeat (first | exact .nil | refine .other (.keep rfl rfl) ?_ | refine .other (.aref rfl rfl rfl) ?_ | refine .other (.val rfl (by first | rfl | (congr 1; first | omega | assumption | (symm; assumption)) | (simp; omega))) ?_ | refine .other .dead ?_ | refine .other (.sl rfl (.row _ _ _ _) rfl) ?_ | refine .other (.sl rfl (.sl _ _) rfl) ?_ | refine .other (.sl rfl (.full _ _) rfl) ?_ | refine .other (.slNil rfl rfl) ?_ | refine .rowNil rfl rfl rfl ?_ | refine .row rfl (by first | rfl | assumption | (rw [← List.map_append]; first | done | rfl | congr 1)) rfl rfl ?_))); (focus (repeat (first | exact .nil | refine KeepB.same rfl rfl rfl ?_ | refine KeepB.sameA rfl rfl rfl ?_))); (focus (repeat (first | exact .nil | refine KeepA.cons rfl (by first | rfl | assumption | exact List.map_set | exact List.map_set.symm | (rw [← List.map_append]; first | done | rfl | congr 1) | (congr 1; first | omega | assumption)) ?_))))
      · repeat' (first | refine CT.seqR ?_ | refine CT.seqD (id := 5) 13 (by kernel_rfl) (by kernel_rfl) ?_ | refine CT.seqD (id := 7) 7 (by kernel_rfl) (by kernel_rfl) ?_ | refine CT.seqD (id := 8) 11 (by kernel_rfl) (by kernel_rfl) ?_ | refine CT.seqD (id := 10) 5 (by kernel_rfl) (by kernel_rfl) ?_ | refine CT.draw (id := 5) 13 (by kernel_rfl) (by kernel_rfl) ?_ | refine CT.draw (id := 7) 7 (by kernel_rfl) (by kernel_rfl) ?_ | refine CT.draw (id := 8) 11 (by kernel_rfl) (by kernel_rfl) ?_ | refine CT.draw (id := 10) 5 (by kernel_rfl) (by kernel_rfl) ?_ | refine CT.region ?_ | refine CT.seq1 ?_ | refine CT.block ?_ | refine CT.condT rfl ?_ | refine CT.condF rfl ?_ | refine CT.condD rfl (fun _ => ?_) (fun _ => ?_) | refine CT.condN rfl (fun _ => ?_) (fun _ => ?_) | refine CT.cond rfl (fun _ => ?_) (fun _ => ?_) | refine CT.skip ?_ | refine CT.exit ?_ | refine CT.ret ?_ | refine CT.goto ?_ | refine CT.label ?_ | refine LT.nil ?_ | refine HT.nil1 ?_ | (refine LT.consT ?_; (first | refine T.alloc (e := 43) (z := .agg #[.int .u64 0, .int .u64 0, .int .u64 0, .int .u64 0]) (cs := [.val (.int .u64 0), .val (.int .u64 0), .val (.int .u64 0), .val (.int .u64 0)]) (by kernel_rfl) rfl (by decide) rfl rfl ?_ | refine T.alloc (e := 45) (z := .agg #[.int .u64 0, .int .u64 0, .int .u64 0, .int .u64 0, .int .i64 0, .int .i64 0]) (cs := [.val (.int .u64 0), .val (.int .u64 0), .val (.int .u64 0), .val (.int .u64 0), .val (.int .i64 0), .val (.int .i64 0)]) (by kernel_rfl) rfl (by decide) rfl rfl ?_ | refine T.store (t := 45) rfl rfl rfl (by kernel_rfl) (by kernel_rfl) (Nat.le_of_ble_eq_true (by kernel_rfl)) rfl rfl ?_ | refine T.store (t := 43) rfl rfl rfl (by kernel_rfl) (by kernel_rfl) (Nat.le_of_ble_eq_true (by kernel_rfl)) rfl rfl ?_)) | (apply LT.cons1; (first | exact arm31_1); decide) | (apply LT.guard1; rfl; rfl; rfl; decide; (first | exact arm31_1); decide) | refine LT.skip1 rfl rfl rfl (by decide) (by decide) ?_ | refine LT.skip2 rfl rfl (by decide) (by decide) ?_ | refine LT.partD rfl rfl (fun _ => ?_) (fun _ => ?_) | refine LT.partN rfl rfl (fun _ => ?_) (fun _ => ?_) | (refine LT.part1 rfl rfl (fun h => ?_) (fun h => ?_); (fail_if_success exact absurd h (by decide)); rotate_left; (fail_if_success exact absurd h (by decide)); rotate_left) | (apply HT.cons1; (first | exact arm31_1)) | (apply HT.guard1; rfl; rfl; rfl; (first | exact arm31_1)) | refine HT.skip1 rfl rfl rfl ?_ | refine HT.skip2 rfl rfl ?_ | refine HT.partD rfl rfl (fun _ => ?_) (fun _ => ?_) | refine HT.partN rfl rfl (fun _ => ?_) (fun _ => ?_) | (refine HT.part1 rfl rfl (fun h => ?_) (fun h => ?_); (fail_if_success exact absurd h (by decide)); rotate_left; (fail_if_success exact absurd h (by decide)); rotate_left))
        refine ⟨i + 1, ⟨by omega, hc.next fun q hq hql => ?_⟩, by omega, ?_⟩
        · rw [good_at hlt hql]
          have h1 := hd i k hlt hkl hik
          have h2 : l[q].len ≤ l[k].len := by
            by_cases e : k = q
            · subst e; exact Int.le_refl _
            · exact hd k q hkl hql (by omega)
          rw [decide_eq_false (by omega), Bool.false_and]
        · (apply Sub.mk; (focus (repeat (first | exact .nil | refine .other (.keep rfl rfl) ?_ | refine .other (.aref rfl rfl rfl) ?_ | refine .other (.val rfl (by first | rfl | (congr 1; first | omega | assumption | (symm; assumption)) | (simp; omega))) ?_ | refine .other .dead ?_ | refine .other (.sl rfl (.row _ _ _ _) rfl) ?_ | refine .other (.sl rfl (.sl _ _) rfl) ?_ | refine .other (.sl rfl (.full _ _) rfl) ?_ | refine .other (.slNil rfl rfl) ?_ | refine .rowNil rfl rfl rfl ?_ | refine .row rfl (by first | rfl | assumption | (rw [← List.map_append]; first | done | rfl | congr 1)) rfl rfl ?_))); (focus (repeat (first | exact .nil | refine KeepB.same rfl rfl rfl ?_ | refine KeepB.sameA rfl rfl rfl ?_))); (focus (repeat (first | exact .nil | refine KeepA.cons rfl (by first | rfl | assumption | exact List.map_set | exact List.map_set.symm | (rw [← List.map_append]; first | done | rfl | congr 1) | (congr 1; first | omega | assumption)) ?_))))
    · repeat' (first | refine CT.seqR ?_ | refine CT.seqD (id := 5) 13 (by kernel_rfl) (by kernel_rfl) ?_ | refine CT.seqD (id := 7) 7 (by kernel_rfl) (by kernel_rfl) ?_ | refine CT.seqD (id := 8) 11 (by kernel_rfl) (by kernel_rfl) ?_ | refine CT.seqD (id := 10) 5 (by kernel_rfl) (by kernel_rfl) ?_ | refine CT.draw (id := 5) 13 (by kernel_rfl) (by kernel_rfl) ?_ | refine CT.draw (id := 7) 7 (by kernel_rfl) (by kernel_rfl) ?_ | refine CT.draw (id := 8) 11 (by kernel_rfl) (by kernel_rfl) ?_ | refine CT.draw (id := 10) 5 (by kernel_rfl) (by kernel_rfl) ?_ | refine CT.region ?_ | refine CT.seq1 ?_ | refine CT.block ?_ | refine CT.condT rfl ?_ | refine CT.condF rfl ?_ | refine CT.condD rfl (fun _ => ?_) (fun _ => ?_) | refine CT.condN rfl (fun _ => ?_) (fun _ => ?_) | refine CT.cond rfl (fun _ => ?_) (fun _ => ?_) | refine CT.skip ?_ | refine CT.exit ?_ | refine CT.ret ?_ | refine CT.goto ?_ | refine CT.label ?_ | refine LT.nil ?_ | refine HT.nil1 ?_ | (refine LT.consT ?_; (first | refine T.alloc (e := 43) (z := .agg #[.int .u64 0, .int .u64 0, .int .u64 0, .int .u64 0]) (cs := [.val (.int .u64 0), .val (.int .u64 0), .val (.int .u64 0), .val (.int .u64 0)]) (by kernel_rfl) rfl (by decide) rfl rfl ?_ | refine T.alloc (e := 45) (z := .agg #[.int .u64 0, .int .u64 0, .int .u64 0, .int .u64 0, .int .i64 0, .int .i64 0]) (cs := [.val (.int .u64 0), .val (.int .u64 0), .val (.int .u64 0), .val (.int .u64 0), .val (.int .i64 0), .val (.int .i64 0)]) (by kernel_rfl) rfl (by decide) rfl rfl ?_ | refine T.store (t := 45) rfl rfl rfl (by kernel_rfl) (by kernel_rfl) (Nat.le_of_ble_eq_true (by kernel_rfl)) rfl rfl ?_ | refine T.store (t := 43) rfl rfl rfl (by kernel_rfl) (by kernel_rfl) (Nat.le_of_ble_eq_true (by kernel_rfl)) rfl rfl ?_)) | (apply LT.cons1; (first | exact arm31_1); decide) | (apply LT.guard1; rfl; rfl; rfl; decide; (first | exact arm31_1); decide) | refine LT.skip1 rfl rfl rfl (by decide) (by decide) ?_ | refine LT.skip2 rfl rfl (by decide) (by decide) ?_ | refine LT.partD rfl rfl (fun _ => ?_) (fun _ => ?_) | refine LT.partN rfl rfl (fun _ => ?_) (fun _ => ?_) | (refine LT.part1 rfl rfl (fun h => ?_) (fun h => ?_); (fail_if_success exact absurd h (by decide)); rotate_left; (fail_if_success exact absurd h (by decide)); rotate_left) | (apply HT.cons1; (first | exact arm31_1)) | (apply HT.guard1; rfl; rfl; rfl; (first | exact arm31_1)) | refine HT.skip1 rfl rfl rfl ?_ | refine HT.skip2 rfl rfl ?_ | refine HT.partD rfl rfl (fun _ => ?_) (fun _ => ?_) | refine HT.partN rfl rfl (fun _ => ?_) (fun _ => ?_) | (refine HT.part1 rfl rfl (fun h => ?_) (fun h => ?_); (fail_if_success exact absurd h (by decide)); rotate_left; (fail_if_success exact absurd h (by decide)); rotate_left))
      refine ⟨i + 1, ⟨by omega, hc.next fun q hq hql => by omega⟩, by omega, ?_⟩
      (apply Sub.mk; (focus (repeat (first | exact .nil | refine .other (.keep rfl rfl) ?_ | refine .other (.aref rfl rfl rfl) ?_ | refine .other (.val rfl (by first | rfl | (congr 1; first | omega | assumption | (symm; assumption)) | (simp; omega))) ?_ | refine .other .dead ?_ | refine .other (.sl rfl (.row _ _ _ _) rfl) ?_ | refine .other (.sl rfl (.sl _ _) rfl) ?_ | refine .other (.sl rfl (.full _ _) rfl) ?_ | refine .other (.slNil rfl rfl) ?_ | refine .rowNil rfl rfl rfl ?_ | refine .row rfl (by first | rfl | assumption | (rw [← List.map_append]; first | done | rfl | congr 1)) rfl rfl ?_))); (focus (repeat (first | exact .nil | refine KeepB.same rfl rfl rfl ?_ | refine KeepB.sameA rfl rfl rfl ?_))); (focus (repeat (first | exact .nil | refine KeepA.cons rfl (by first | rfl | assumption | exact List.map_set | exact List.map_set.symm | (rw [← List.map_append]; first | done | rfl | congr 1) | (congr 1; first | omega | assumption)) ?_))))
  · obtain rfl : i = l.length := by omega
    have hf := fst2_none hc
    repeat' (first | refine CT.seqR ?_ | refine CT.seqD (id := 5) 13 (by kernel_rfl) (by kernel_rfl) ?_ | refine CT.seqD (id := 7) 7 (by kernel_rfl) (by kernel_rfl) ?_ | refine CT.seqD (id := 8) 11 (by kernel_rfl) (by kernel_rfl) ?_ | refine CT.seqD (id := 10) 5 (by kernel_rfl) (by kernel_rfl) ?_ | refine CT.draw (id := 5) 13 (by kernel_rfl) (by kernel_rfl) ?_ | refine CT.draw (id := 7) 7 (by kernel_rfl) (by kernel_rfl) ?_ | refine CT.draw (id := 8) 11 (by kernel_rfl) (by kernel_rfl) ?_ | refine CT.draw (id := 10) 5 (by kernel_rfl) (by kernel_rfl) ?_ | refine CT.region ?_ | refine CT.seq1 ?_ | refine CT.block ?_ | refine CT.condT rfl ?_ | refine CT.condF rfl ?_ | refine CT.condD rfl (fun _ => ?_) (fun _ => ?_) | refine CT.condN rfl (fun _ => ?_) (fun _ => ?_) | refine CT.cond rfl (fun _ => ?_) (fun _ => ?_) | refine CT.skip ?_ | refine CT.exit ?_ | refine CT.ret ?_ | refine CT.goto ?_ | refine CT.label ?_ | refine LT.nil ?_ | refine HT.nil1 ?_ | (refine LT.consT ?_; (first | refine T.alloc (e := 43) (z := .agg #[.int .u64 0, .int .u64 0, .int .u64 0, .int .u64 0]) (cs := [.val (.int .u64 0), .val (.int .u64 0), .val (.int .u64 0), .val (.int .u64 0)]) (by kernel_rfl) rfl (by decide) rfl rfl ?_ | refine T.alloc (e := 45) (z := .agg #[.int .u64 0, .int .u64 0, .int .u64 0, .int .u64 0, .int .i64 0, .int .i64 0]) (cs := [.val (.int .u64 0), .val (.int .u64 0), .val (.int .u64 0), .val (.int .u64 0), .val (.int .i64 0), .val (.int .i64 0)]) (by kernel_rfl) rfl (by decide) rfl rfl ?_ | refine T.store (t := 45) rfl rfl rfl (by kernel_rfl) (by kernel_rfl) (Nat.le_of_ble_eq_true (by kernel_rfl)) rfl rfl ?_ | refine T.store (t := 43) rfl rfl rfl (by kernel_rfl) (by kernel_rfl) (Nat.le_of_ble_eq_true (by kernel_rfl)) rfl rfl ?_)) | (apply LT.cons1; (first | exact arm31_1); decide) | (apply LT.guard1; rfl; rfl; rfl; decide; (first | exact arm31_1); decide) | refine LT.skip1 rfl rfl rfl (by decide) (by decide) ?_ | refine LT.skip2 rfl rfl (by decide) (by decide) ?_ | refine LT.partD rfl rfl (fun _ => ?_) (fun _ => ?_) | refine LT.partN rfl rfl (fun _ => ?_) (fun _ => ?_) | (refine LT.part1 rfl rfl (fun h => ?_) (fun h => ?_); (fail_if_success exact absurd h (by decide)); rotate_left; (fail_if_success exact absurd h (by decide)); rotate_left) | (apply HT.cons1; (first | exact arm31_1)) | (apply HT.guard1; rfl; rfl; rfl; (first | exact arm31_1)) | refine HT.skip1 rfl rfl rfl ?_ | refine HT.skip2 rfl rfl ?_ | refine HT.partD rfl rfl (fun _ => ?_) (fun _ => ?_) | refine HT.partN rfl rfl (fun _ => ?_) (fun _ => ?_) | (refine HT.part1 rfl rfl (fun h => ?_) (fun h => ?_); (fail_if_success exact absurd h (by decide)); rotate_left; (fail_if_success exact absurd h (by decide)); rotate_left))
    refine ⟨by first | exact .inl rfl | exact .inr rfl, _, (.cons (.tmp 2 (A := .val _) rfl (fun _ h => by cases h)) (.cons (.tmp 3 (A := .val _) rfl (fun _ h => by cases h)) (.cons (.many 4 (vs := [_, _, _, _]) rfl rfl (by kernel_rfl) rfl rfl) (.cons (.tmp 5 (A := .val _) rfl (fun _ h => by cases h)) .nil)))), ?_, rfl⟩
    simp only [twoI, twoK, twoW, twoIs, hf]
    rfl
end Go.Proofs.Ytjibochjmmehcaa

/- merge.Merge. -/
namespace Go.Proofs.Ytjibochjmmehcaa
set_option linter.unusedSimpArgs false
set_option linter.unusedVariables false
open Go Go.RowKit Go.Shelf
/-- The first n entries but two. -/
def keepTo (l : List Ent) (i k n : Nat) : List Ent := ((List.range n).filter fun j => decide (j ≠ i) && decide (j ≠ k)).map (nth l)
theorem keepTo_skip {l : List Ent} {i k n : Nat} (h : n = i ∨ n = k) : keepTo l i k (n + 1) = keepTo l i k n := by
  unfold keepTo
  rw [List.range_succ, List.filter_append, List.filter_cons_of_neg (by rcases h with h | h <;> simp [h]), List.filter_nil, List.append_nil]
theorem keepTo_take {l : List Ent} {i k n : Nat} (h1 : n ≠ i) (h2 : n ≠ k) (hn : n < l.length) : keepTo l i k (n + 1) = keepTo l i k n ++ [l[n]] := by
  unfold keepTo
  rw [List.range_succ, List.filter_append, List.filter_cons_of_pos (by simp [h1, h2]), List.filter_nil, List.map_append, List.map_cons, List.map_nil, nth_at l hn]
theorem keepTo_length (l : List Ent) {i k : Nat} (hik : i < k) : ∀ n, (keepTo l i k n).length + (if i < n then 1 else 0) + (if k < n then 1 else 0) = n
  | 0 => by simp [keepTo]
  | n + 1 => by
    have ih := keepTo_length l hik n
    by_cases h1 : n = i
    · rw [keepTo_skip (.inl h1)]
      rw [if_neg (by omega), if_neg (by omega)] at ih
      rw [if_pos (by omega), if_neg (by omega)]; omega
    · by_cases h2 : n = k
      · rw [keepTo_skip (.inr h2)]
        rw [if_pos (by omega), if_neg (by omega)] at ih
        rw [if_pos (by omega), if_pos (by omega)]; omega
      · have e : (keepTo l i k (n + 1)).length = (keepTo l i k n).length + 1 := by
          unfold keepTo
          rw [List.range_succ, List.filter_append, List.filter_cons_of_pos (by simp [h1, h2]), List.filter_nil]
          simp
        rw [e]
        have a1 : (if i < n + 1 then 1 else 0) = (if i < n then 1 else 0) := by
          by_cases h : i < n
          · rw [if_pos h, if_pos (by omega)]
          · rw [if_neg h, if_neg (by omega)]
        have a2 : (if k < n + 1 then 1 else 0) = (if k < n then 1 else 0) := by
          by_cases h : k < n
          · rw [if_pos h, if_pos (by omega)]
          · rw [if_neg h, if_neg (by omega)]
        rw [a1, a2]; omega
theorem keepTo_mem {l : List Ent} {i k n : Nat} (hn : n ≤ l.length) {x : Ent} (h : x ∈ keepTo l i k n) : x ∈ l := by
  unfold keepTo at h
  obtain ⟨j, hj, rfl⟩ := List.mem_map.1 h
  have hjn := List.mem_range.1 (List.mem_filter.1 hj).1
  rw [nth_at l (by omega)]
  exact List.getElem_mem _
/-- What two entries merge to. -/
def mEnt (l : List Ent) (i k : Nat) : Ent := ⟨wMergeW (nth l i).w (nth l k).w, (nth l i).len, (nth l i).act⟩
def stepM (l : List Ent) : Option (List Ent) := (fst2 l).map fun p => sortE (keepTo l p.1 p.2 l.length ++ [mEnt l p.1 p.2])
def mergeN : Nat → List Ent → List Ent
  | 0, l => l
  | n + 1, l => match stepM l with
    | none => l
    | some l' => mergeN n l'
def mergeE (l : List Ent) : List Ent := mergeN l.length (sortE l)
theorem step_length {l l' : List Ent} (h : stepM l = some l') : l'.length + 1 = l.length := by
  unfold stepM at h
  rw [Option.map_eq_some_iff] at h
  obtain ⟨⟨i, k⟩, h1, rfl⟩ := h
  obtain ⟨h2, h3, _⟩ := fst2_spec h1
  have := keepTo_length l h2 l.length
  rw [if_pos (by omega), if_pos (by omega)] at this
  rw [sortE_length, List.length_append, List.length_singleton]
  omega
theorem mergeN_none {l : List Ent} (h : stepM l = none) : ∀ n, mergeN n l = l
  | 0 => rfl
  | n + 1 => by simp only [mergeN, h]
theorem mergeN_some {l l' : List Ent} (h : stepM l = some l') : mergeN l.length l = mergeN l'.length l' := by
  rw [← step_length h]
  simp only [mergeN, h]
theorem step_ok {l l' : List Ent} (h : stepM l = some l') (hok : ∀ x ∈ l, x.w.ok) : ∀ x ∈ l', x.w.ok := fun x hx => by
  unfold stepM at h
  rw [Option.map_eq_some_iff] at h
  obtain ⟨⟨i, k⟩, h1, rfl⟩ := h
  obtain ⟨h2, h3, _⟩ := fst2_spec h1
  rw [sortE_mem, List.mem_append] at hx
  rcases hx with hx | hx
  · exact hok x (keepTo_mem (Nat.le_refl _) hx)
  · rw [List.mem_singleton.1 hx]
    unfold mEnt
    rw [nth_at l (by omega : i < l.length), nth_at l h3]
    exact wMerge_ok (hok _ (List.getElem_mem _)) (hok _ (List.getElem_mem _))
attribute [local irreducible] OpH OpT LT CT HT Good
theorem arm13_1 {p : Prop} (h : p := by first | exact OpH.assign (v := .val _) rfl | exact OpH.assign (v := .sl _ _) rfl | exact OpH.assign (v := .row _ _ _ _) rfl | exact OpH.assign (v := .full _ _) rfl | exact OpH.assign (v := .ptr _ _) rfl | exact OpH.assign (v := .cptr _) rfl | exact OpH.assign (v := .cloB _ _) rfl | exact OpH.assign (v := .clo _ _) rfl | exact OpH.assign (v := .pr _) rfl | exact OpH.assign (v := .arow _) rfl | exact OpH.assign (v := .aptr _ _ _ _) rfl | exact OpH.assign (v := .asub _ _ _ _) rfl | exact OpH.assign (v := .tup _) rfl | exact OpH.move (v := .val _) rfl | exact OpH.move (v := .sl _ _) rfl | exact OpH.move (v := .row _ _ _ _) rfl | exact OpH.move (v := .full _ _) rfl | exact OpH.move (v := .ptr _ _) rfl | exact OpH.move (v := .cptr _) rfl | exact OpH.move (v := .cloB _ _) rfl | exact OpH.move (v := .clo _ _) rfl | exact OpH.move (v := .pr _) rfl | exact OpH.move (v := .arow _) rfl | exact OpH.move (v := .aptr _ _ _ _) rfl | exact OpH.move (v := .asub _ _ _ _) rfl | exact OpH.move (v := .tup _) rfl | exact OpH.callFW Try.func30 rfl rfl rfl ((g_eSort _ (by first | omega | (simp; omega) | simp))) | exact OpH.extract (v := .val _) rfl rfl (fun _ h => by cases h) | exact OpH.extract (v := .sl _ _) rfl rfl (fun _ h => by cases h) | exact OpH.extract (v := .row _ _ _ _) rfl rfl (fun _ h => by cases h) | exact OpH.extract (v := .full _ _) rfl rfl (fun _ h => by cases h) | exact OpH.lenM (t := 22) rfl (.sl _ _) (by kernel_rfl) | exact OpH.lenM (t := 22) rfl (.row _ _ _ _) (by kernel_rfl) | exact OpH.lenM (t := 22) rfl (.full _ _) (by kernel_rfl) | exact OpH.len (t := 22) rfl slP (by kernel_rfl) | exact OpH.lenNil (t := 22) rfl (by kernel_rfl) | exact OpH.bin rfl rfl (pb_lss_t (by omega)) | exact OpH.bin rfl rfl (pb_lss_f (by omega)) | exact OpH.bin rfl rfl (pb_lss) | exact OpH.indexS (t := 22) (k := 6) rfl slP rfl rfl (by kernel_rfl) (map_at bd) rfl | exact loadC6 (t := 45) rfl (by kernel_rfl) | exact loadB6 (t := 45) rfl rfl (by kernel_rfl) rfl | exact OpH.bin rfl rfl (pb_neq_t (by first | omega | assumption)) | exact OpH.bin rfl rfl (pb_neq_f (by first | omega | assumption)) | exact OpH.bin rfl rfl (pb_neq) | exact OpH.pick (b := true) (v := .val _) rfl rfl | exact OpH.pick (b := false) (v := .val _) rfl rfl | exact OpH.pick (b := true) (v := .sl _ _) rfl rfl | exact OpH.pick (b := false) (v := .sl _ _) rfl rfl | exact OpH.pick (b := true) (v := .row _ _ _ _) rfl rfl | exact OpH.pick (b := false) (v := .row _ _ _ _) rfl rfl | exact OpH.pick (b := true) (v := .full _ _) rfl rfl | exact OpH.pick (b := false) (v := .full _ _) rfl rfl | exact OpH.pickV rfl rfl rfl | exact lit_22_1 rfl | exact OpH.bin rfl rfl (pb_inc (by omega)) | exact OpH.bin rfl rfl (pb_addN rfl (by omega)) | exact OpH.bin rfl rfl (pb_add (by omega)) | exact OpH.bin rfl rfl (pb_addw) | exact loadC4 (t := 43) rfl (by kernel_rfl) | exact loadB4 (t := 43) rfl rfl (by kernel_rfl) rfl | exact OpH.fieldC (s := 45) (f := 1) (off := 4) rfl (by kernel_rfl) rfl | exact OpH.fieldB (s := 45) (f := 1) (off := 4) rfl (by kernel_rfl) rfl | exact OpH.loadC1 (t := 3) rfl (by kernel_rfl) rfl | exact OpH.loadB1 (t := 3) rfl rfl (by kernel_rfl) rfl | exact OpH.fieldC (s := 45) (f := 2) (off := 5) rfl (by kernel_rfl) rfl | exact OpH.fieldB (s := 45) (f := 2) (off := 5) rfl (by kernel_rfl) rfl | exact build_45_0_1_2 rfl rfl rfl | exact OpH.build (t := 45) (cells := #[_, _, _, _, _, _]) (by kernel_rfl) rfl) : p := h
set_option maxRecDepth 100000 in
set_option maxHeartbeats 4000000 in
theorem g_Merge (xs : List Ent) (hok : ∀ x ∈ xs, x.w.ok) (hl : xs.length ≤ 4096) : Good Try.prog 13 [.sl 6 (xs.map encE)] (.row 3 45 6 ((mergeE xs).map encE)) := by
  refine Good.of_body (T := [(0, _)]) Try.func13 rfl rfl rfl ?_
  intro K0 w0 hno
  repeat' (first | refine CT.seqR ?_ | refine CT.seqD (id := 11) 14 (by kernel_rfl) (by kernel_rfl) ?_ | refine CT.draw (id := 11) 14 (by kernel_rfl) (by kernel_rfl) ?_ | refine CT.region ?_ | refine CT.seq1 ?_ | refine CT.block ?_ | refine CT.condT rfl ?_ | refine CT.condF rfl ?_ | refine CT.condD rfl (fun _ => ?_) (fun _ => ?_) | refine CT.condN rfl (fun _ => ?_) (fun _ => ?_) | refine CT.cond rfl (fun _ => ?_) (fun _ => ?_) | refine CT.skip ?_ | refine CT.exit ?_ | refine CT.ret ?_ | refine CT.goto ?_ | refine CT.label ?_ | refine LT.nil ?_ | refine HT.nil1 ?_ | (refine LT.consT ?_; (first | refine T.callRow Try.func30 rfl rfl rfl ((g_eSort _ (by first | omega | (simp; omega) | simp))) (by decide) rfl ?_ | refine T.alloc (e := 43) (z := .agg #[.int .u64 0, .int .u64 0, .int .u64 0, .int .u64 0]) (cs := [.val (.int .u64 0), .val (.int .u64 0), .val (.int .u64 0), .val (.int .u64 0)]) (by kernel_rfl) rfl (by decide) rfl rfl ?_ | refine T.store (t := 43) rfl rfl rfl (by kernel_rfl) (by kernel_rfl) (Nat.le_of_ble_eq_true (by kernel_rfl)) rfl rfl ?_ | refine T.alloc (e := 45) (z := .agg #[.int .u64 0, .int .u64 0, .int .u64 0, .int .u64 0, .int .i64 0, .int .i64 0]) (cs := [.val (.int .u64 0), .val (.int .u64 0), .val (.int .u64 0), .val (.int .u64 0), .val (.int .i64 0), .val (.int .i64 0)]) (by kernel_rfl) rfl (by decide) rfl rfl ?_ | refine T.store (t := 45) rfl rfl rfl (by kernel_rfl) (by kernel_rfl) (Nat.le_of_ble_eq_true (by kernel_rfl)) rfl rfl ?_ | refine T.appNil (t := 22) (e := 45) (k := 6) (bytes := 48) rfl rfl srP (by kernel_rfl) szP (by decide) rfl ?_ | refine T.app (t := 22) (e := 45) (k := 6) (bytes := 48) rfl rfl srP (by kernel_rfl) szP (by decide) rfl rfl ?_)) | (apply LT.cons1; (first | exact arm13_1); decide) | (apply LT.guard1; rfl; rfl; rfl; decide; (first | exact arm13_1); decide) | refine LT.skip1 rfl rfl rfl (by decide) (by decide) ?_ | refine LT.skip2 rfl rfl (by decide) (by decide) ?_ | refine LT.partD rfl rfl (fun _ => ?_) (fun _ => ?_) | refine LT.partN rfl rfl (fun _ => ?_) (fun _ => ?_) | (refine LT.part1 rfl rfl (fun h => ?_) (fun h => ?_); (fail_if_success exact absurd h (by decide)); rotate_left; (fail_if_success exact absurd h (by decide)); rotate_left) | (apply HT.cons1; (first | exact arm13_1)) | (apply HT.guard1; rfl; rfl; rfl; (first | exact arm13_1)) | refine HT.skip1 rfl rfl rfl ?_ | refine HT.skip2 rfl rfl ?_ | refine HT.partD rfl rfl (fun _ => ?_) (fun _ => ?_) | refine HT.partN rfl rfl (fun _ => ?_) (fun _ => ?_) | (refine HT.part1 rfl rfl (fun h => ?_) (fun h => ?_); (fail_if_success exact absurd h (by decide)); rotate_left; (fail_if_success exact absurd h (by decide)); rotate_left))
  refine CT.scopeS (fun o : List Ent => (⟨[(3, .row 3 45 6 (o.map encE))], [], []⟩ : St)) (fun o => Desc o ∧ (∀ x ∈ o, x.w.ok) ∧ o.length ≤ 4096 ∧ mergeN o.length o = mergeE xs) (fun o => o.length) 0 rfl ?_ ?_
  · rintro o ⟨hd, ho, hol, hm⟩
    have gT := g_two o hd ho (by omega)
    cases hf : fst2 o with
    | none =>
      have hs : stepM o = none := by unfold stepM; rw [hf]; rfl
      rw [mergeN_none hs] at hm
      have e1 : twoIs o = false := by unfold twoIs; rw [hf]; rfl
      rw [e1] at gT
      repeat' (first | refine CT.seqR ?_ | refine CT.seqD (id := 11) 14 (by kernel_rfl) (by kernel_rfl) ?_ | refine CT.draw (id := 11) 14 (by kernel_rfl) (by kernel_rfl) ?_ | refine CT.region ?_ | refine CT.seq1 ?_ | refine CT.block ?_ | refine CT.condT rfl ?_ | refine CT.condF rfl ?_ | refine CT.condD rfl (fun _ => ?_) (fun _ => ?_) | refine CT.condN rfl (fun _ => ?_) (fun _ => ?_) | refine CT.cond rfl (fun _ => ?_) (fun _ => ?_) | refine CT.skip ?_ | refine CT.exit ?_ | refine CT.ret ?_ | refine CT.goto ?_ | refine CT.label ?_ | refine LT.nil ?_ | refine HT.nil1 ?_ | (refine LT.consT ?_; (first | refine T.callRow Try.func30 rfl rfl rfl ((g_eSort _ (by first | omega | (simp; omega) | simp))) (by decide) rfl ?_ | refine T.alloc (e := 43) (z := .agg #[.int .u64 0, .int .u64 0, .int .u64 0, .int .u64 0]) (cs := [.val (.int .u64 0), .val (.int .u64 0), .val (.int .u64 0), .val (.int .u64 0)]) (by kernel_rfl) rfl (by decide) rfl rfl ?_ | refine T.store (t := 43) rfl rfl rfl (by kernel_rfl) (by kernel_rfl) (Nat.le_of_ble_eq_true (by kernel_rfl)) rfl rfl ?_ | refine T.alloc (e := 45) (z := .agg #[.int .u64 0, .int .u64 0, .int .u64 0, .int .u64 0, .int .i64 0, .int .i64 0]) (cs := [.val (.int .u64 0), .val (.int .u64 0), .val (.int .u64 0), .val (.int .u64 0), .val (.int .i64 0), .val (.int .i64 0)]) (by kernel_rfl) rfl (by decide) rfl rfl ?_ | refine T.store (t := 45) rfl rfl rfl (by kernel_rfl) (by kernel_rfl) (Nat.le_of_ble_eq_true (by kernel_rfl)) rfl rfl ?_ | refine T.appNil (t := 22) (e := 45) (k := 6) (bytes := 48) rfl rfl srP (by kernel_rfl) szP (by decide) rfl ?_ | refine T.app (t := 22) (e := 45) (k := 6) (bytes := 48) rfl rfl srP (by kernel_rfl) szP (by decide) rfl rfl ?_)) | (apply LT.cons1; (first | exact OpH.callF Try.func31 rfl rfl rfl gT rfl | exact arm13_1); decide) | (apply LT.guard1; rfl; rfl; rfl; decide; (first | exact OpH.callF Try.func31 rfl rfl rfl gT rfl | exact arm13_1); decide) | refine LT.skip1 rfl rfl rfl (by decide) (by decide) ?_ | refine LT.skip2 rfl rfl (by decide) (by decide) ?_ | refine LT.partD rfl rfl (fun _ => ?_) (fun _ => ?_) | refine LT.partN rfl rfl (fun _ => ?_) (fun _ => ?_) | (refine LT.part1 rfl rfl (fun h => ?_) (fun h => ?_); (fail_if_success exact absurd h (by decide)); rotate_left; (fail_if_success exact absurd h (by decide)); rotate_left) | (apply HT.cons1; (first | exact OpH.callF Try.func31 rfl rfl rfl gT rfl | exact arm13_1)) | (apply HT.guard1; rfl; rfl; rfl; (first | exact OpH.callF Try.func31 rfl rfl rfl gT rfl | exact arm13_1)) | refine HT.skip1 rfl rfl rfl ?_ | refine HT.skip2 rfl rfl ?_ | refine HT.partD rfl rfl (fun _ => ?_) (fun _ => ?_) | refine HT.partN rfl rfl (fun _ => ?_) (fun _ => ?_) | (refine HT.part1 rfl rfl (fun h => ?_) (fun h => ?_); (fail_if_success exact absurd h (by decide)); rotate_left; (fail_if_success exact absurd h (by decide)); rotate_left))
      show retA Try.prog Try.f13 _ .ret _
      refine ⟨by first | exact .inl rfl | exact .inr rfl, _, (.cons (.tmp 2 (A := .row _ _ _ _) rfl (fun _ h => by cases h)) .nil), ?_, rfl⟩
      rw [hm]
      rfl
    | some p =>
      obtain ⟨i, k⟩ := p
      obtain ⟨hik, hko, _⟩ := fst2_spec hf
      have hs : stepM o = some (sortE (keepTo o i k o.length ++ [mEnt o i k])) := by unfold stepM; rw [hf]; rfl
      have hio : i < o.length := by omega
      have e1 : twoIs o = true := by unfold twoIs; rw [hf]; rfl
      have e2 : twoI o = (i : Int) := by unfold twoI; rw [hf]
      have e3 : twoK o = (k : Int) := by unfold twoK; rw [hf]
      obtain ⟨W, eW⟩ : ∃ W, twoW o = W := ⟨_, rfl⟩
      have e4 : mEnt o i k = ⟨W, o[i].len, o[i].act⟩ := by unfold mEnt; rw [← eW]; unfold twoW; rw [hf]; simp only [nth_at o hio]
      rw [e1, e2, e3, eW] at gT
      repeat' (first | refine CT.seqR ?_ | refine CT.seqD (id := 11) 14 (by kernel_rfl) (by kernel_rfl) ?_ | refine CT.draw (id := 11) 14 (by kernel_rfl) (by kernel_rfl) ?_ | refine CT.region ?_ | refine CT.seq1 ?_ | refine CT.block ?_ | refine CT.condT rfl ?_ | refine CT.condF rfl ?_ | refine CT.condD rfl (fun _ => ?_) (fun _ => ?_) | refine CT.condN rfl (fun _ => ?_) (fun _ => ?_) | refine CT.cond rfl (fun _ => ?_) (fun _ => ?_) | refine CT.skip ?_ | refine CT.exit ?_ | refine CT.ret ?_ | refine CT.goto ?_ | refine CT.label ?_ | refine LT.nil ?_ | refine HT.nil1 ?_ | (refine LT.consT ?_; (first | refine T.callRow Try.func30 rfl rfl rfl ((g_eSort _ (by first | omega | (simp; omega) | simp))) (by decide) rfl ?_ | refine T.alloc (e := 43) (z := .agg #[.int .u64 0, .int .u64 0, .int .u64 0, .int .u64 0]) (cs := [.val (.int .u64 0), .val (.int .u64 0), .val (.int .u64 0), .val (.int .u64 0)]) (by kernel_rfl) rfl (by decide) rfl rfl ?_ | refine T.store (t := 43) rfl rfl rfl (by kernel_rfl) (by kernel_rfl) (Nat.le_of_ble_eq_true (by kernel_rfl)) rfl rfl ?_ | refine T.alloc (e := 45) (z := .agg #[.int .u64 0, .int .u64 0, .int .u64 0, .int .u64 0, .int .i64 0, .int .i64 0]) (cs := [.val (.int .u64 0), .val (.int .u64 0), .val (.int .u64 0), .val (.int .u64 0), .val (.int .i64 0), .val (.int .i64 0)]) (by kernel_rfl) rfl (by decide) rfl rfl ?_ | refine T.store (t := 45) rfl rfl rfl (by kernel_rfl) (by kernel_rfl) (Nat.le_of_ble_eq_true (by kernel_rfl)) rfl rfl ?_ | refine T.appNil (t := 22) (e := 45) (k := 6) (bytes := 48) rfl rfl srP (by kernel_rfl) szP (by decide) rfl ?_ | refine T.app (t := 22) (e := 45) (k := 6) (bytes := 48) rfl rfl srP (by kernel_rfl) szP (by decide) rfl rfl ?_)) | (apply LT.cons1; (first | exact OpH.callF Try.func31 rfl rfl rfl gT rfl | exact arm13_1); decide) | (apply LT.guard1; rfl; rfl; rfl; decide; (first | exact OpH.callF Try.func31 rfl rfl rfl gT rfl | exact arm13_1); decide) | refine LT.skip1 rfl rfl rfl (by decide) (by decide) ?_ | refine LT.skip2 rfl rfl (by decide) (by decide) ?_ | refine LT.partD rfl rfl (fun _ => ?_) (fun _ => ?_) | refine LT.partN rfl rfl (fun _ => ?_) (fun _ => ?_) | (refine LT.part1 rfl rfl (fun h => ?_) (fun h => ?_); (fail_if_success exact absurd h (by decide)); rotate_left; (fail_if_success exact absurd h (by decide)); rotate_left) | (apply HT.cons1; (first | exact OpH.callF Try.func31 rfl rfl rfl gT rfl | exact arm13_1)) | (apply HT.guard1; rfl; rfl; rfl; (first | exact OpH.callF Try.func31 rfl rfl rfl gT rfl | exact arm13_1)) | refine HT.skip1 rfl rfl rfl ?_ | refine HT.skip2 rfl rfl ?_ | refine HT.partD rfl rfl (fun _ => ?_) (fun _ => ?_) | refine HT.partN rfl rfl (fun _ => ?_) (fun _ => ?_) | (refine HT.part1 rfl rfl (fun h => ?_) (fun h => ?_); (fail_if_success exact absurd h (by decide)); rotate_left; (fail_if_success exact absurd h (by decide)); rotate_left))
      refine CT.loopX (fun n : Nat => (⟨[(3, .row 3 45 6 (o.map encE)), (4, .val (.int .i64 i)), (5, .val (.int .i64 k)), (6, .ptr 6 0), (8, .row 8 45 6 ((keepTo o i k n).map encE)), (21, .sl 6 (o.map encE)), (22, .val (.int .i64 o.length)), (23, .val (.int .i64 n))], [(6, [.val (.int .u64 W.v.x), .val (.int .u64 W.v.y), .val (.int .u64 W.m.x), .val (.int .u64 W.m.y)])], []⟩ : St))
        (fun n => n ≤ o.length) (fun n => o.length - n) 0 ?_ (by omega) ?_
      · rw [show keepTo o i k 0 = [] from rfl]
        (apply Sub.mk; (focus (repeat (first | exact .nil | refine .other (.keep rfl rfl) ?_ | refine .other (.aref rfl rfl rfl) ?_ | refine .other (.val rfl (by first | rfl | (congr 1; first | omega | assumption | (symm; assumption)) | (simp; omega))) ?_ | refine .other .dead ?_ | refine .other (.sl rfl (.row _ _ _ _) rfl) ?_ | refine .other (.sl rfl (.sl _ _) rfl) ?_ | refine .other (.sl rfl (.full _ _) rfl) ?_ | refine .other (.slNil rfl rfl) ?_ | refine .rowNil rfl rfl rfl ?_ | refine .row rfl (by first | rfl | assumption | (rw [← List.map_append]; first | done | rfl | congr 1)) rfl rfl ?_))); (focus (repeat (first | exact .nil | refine KeepB.same rfl rfl rfl ?_ | refine KeepB.sameA rfl rfl rfl ?_))); (focus (repeat (first | exact .nil | refine KeepA.cons rfl (by first | rfl | assumption | exact List.map_set | exact List.map_set.symm | (rw [← List.map_append]; first | done | rfl | congr 1) | (congr 1; first | omega | assumption)) ?_))))
      rintro n hn
      have hkn := keepTo_length o hik n
      by_cases hlt : n < o.length
      · have hkl : (keepTo o i k n).length ≤ 4096 := by omega
        by_cases hni : n = i
        · have hni' : (n : Int) = i := by omega
          repeat' (first | refine CT.seqR ?_ | refine CT.seqD (id := 11) 14 (by kernel_rfl) (by kernel_rfl) ?_ | refine CT.draw (id := 11) 14 (by kernel_rfl) (by kernel_rfl) ?_ | refine CT.region ?_ | refine CT.seq1 ?_ | refine CT.block ?_ | refine CT.condT rfl ?_ | refine CT.condF rfl ?_ | refine CT.condD rfl (fun _ => ?_) (fun _ => ?_) | refine CT.condN rfl (fun _ => ?_) (fun _ => ?_) | refine CT.cond rfl (fun _ => ?_) (fun _ => ?_) | refine CT.skip ?_ | refine CT.exit ?_ | refine CT.ret ?_ | refine CT.goto ?_ | refine CT.label ?_ | refine LT.nil ?_ | refine HT.nil1 ?_ | (refine LT.consT ?_; (first | refine T.callRow Try.func30 rfl rfl rfl ((g_eSort _ (by first | omega | (simp; omega) | simp))) (by decide) rfl ?_ | refine T.alloc (e := 43) (z := .agg #[.int .u64 0, .int .u64 0, .int .u64 0, .int .u64 0]) (cs := [.val (.int .u64 0), .val (.int .u64 0), .val (.int .u64 0), .val (.int .u64 0)]) (by kernel_rfl) rfl (by decide) rfl rfl ?_ | refine T.store (t := 43) rfl rfl rfl (by kernel_rfl) (by kernel_rfl) (Nat.le_of_ble_eq_true (by kernel_rfl)) rfl rfl ?_ | refine T.alloc (e := 45) (z := .agg #[.int .u64 0, .int .u64 0, .int .u64 0, .int .u64 0, .int .i64 0, .int .i64 0]) (cs := [.val (.int .u64 0), .val (.int .u64 0), .val (.int .u64 0), .val (.int .u64 0), .val (.int .i64 0), .val (.int .i64 0)]) (by kernel_rfl) rfl (by decide) rfl rfl ?_ | refine T.store (t := 45) rfl rfl rfl (by kernel_rfl) (by kernel_rfl) (Nat.le_of_ble_eq_true (by kernel_rfl)) rfl rfl ?_ | refine T.appNil (t := 22) (e := 45) (k := 6) (bytes := 48) rfl rfl srP (by kernel_rfl) szP (by decide) rfl ?_ | refine T.app (t := 22) (e := 45) (k := 6) (bytes := 48) rfl rfl srP (by kernel_rfl) szP (by decide) rfl rfl ?_)) | (apply LT.cons1; (first | exact arm13_1); decide) | (apply LT.guard1; rfl; rfl; rfl; decide; (first | exact arm13_1); decide) | refine LT.skip1 rfl rfl rfl (by decide) (by decide) ?_ | refine LT.skip2 rfl rfl (by decide) (by decide) ?_ | refine LT.partD rfl rfl (fun _ => ?_) (fun _ => ?_) | refine LT.partN rfl rfl (fun _ => ?_) (fun _ => ?_) | (refine LT.part1 rfl rfl (fun h => ?_) (fun h => ?_); (fail_if_success exact absurd h (by decide)); rotate_left; (fail_if_success exact absurd h (by decide)); rotate_left) | (apply HT.cons1; (first | exact arm13_1)) | (apply HT.guard1; rfl; rfl; rfl; (first | exact arm13_1)) | refine HT.skip1 rfl rfl rfl ?_ | refine HT.skip2 rfl rfl ?_ | refine HT.partD rfl rfl (fun _ => ?_) (fun _ => ?_) | refine HT.partN rfl rfl (fun _ => ?_) (fun _ => ?_) | (refine HT.part1 rfl rfl (fun h => ?_) (fun h => ?_); (fail_if_success exact absurd h (by decide)); rotate_left; (fail_if_success exact absurd h (by decide)); rotate_left))
          refine ⟨n + 1, by omega, by omega, ?_⟩
          rw [keepTo_skip (.inl hni)]
          (apply Sub.mk; (focus (repeat (first | exact .nil | refine .other (.keep rfl rfl) ?_ | refine .other (.aref rfl rfl rfl) ?_ | refine .other (.val rfl (by first | rfl | (congr 1; first | omega | assumption | (symm; assumption)) | (simp; omega))) ?_ | refine .other .dead ?_ | refine .other (.sl rfl (.row _ _ _ _) rfl) ?_ | refine .other (.sl rfl (.sl _ _) rfl) ?_ | refine .other (.sl rfl (.full _ _) rfl) ?_ | refine .other (.slNil rfl rfl) ?_ | refine .rowNil rfl rfl rfl ?_ | refine .row rfl (by first | rfl | assumption | (rw [← List.map_append]; first | done | rfl | congr 1)) rfl rfl ?_))); (focus (repeat (first | exact .nil | refine KeepB.same rfl rfl rfl ?_ | refine KeepB.sameA rfl rfl rfl ?_))); (focus (repeat (first | exact .nil | refine KeepA.cons rfl (by first | rfl | assumption | exact List.map_set | exact List.map_set.symm | (rw [← List.map_append]; first | done | rfl | congr 1) | (congr 1; first | omega | assumption)) ?_))))
        · by_cases hnk : n = k
          · have hnk' : (n : Int) = k := by omega
            have hni' : ¬ (n : Int) = i := by omega
            repeat' (first | refine CT.seqR ?_ | refine CT.seqD (id := 11) 14 (by kernel_rfl) (by kernel_rfl) ?_ | refine CT.draw (id := 11) 14 (by kernel_rfl) (by kernel_rfl) ?_ | refine CT.region ?_ | refine CT.seq1 ?_ | refine CT.block ?_ | refine CT.condT rfl ?_ | refine CT.condF rfl ?_ | refine CT.condD rfl (fun _ => ?_) (fun _ => ?_) | refine CT.condN rfl (fun _ => ?_) (fun _ => ?_) | refine CT.cond rfl (fun _ => ?_) (fun _ => ?_) | refine CT.skip ?_ | refine CT.exit ?_ | refine CT.ret ?_ | refine CT.goto ?_ | refine CT.label ?_ | refine LT.nil ?_ | refine HT.nil1 ?_ | (refine LT.consT ?_; (first | refine T.callRow Try.func30 rfl rfl rfl ((g_eSort _ (by first | omega | (simp; omega) | simp))) (by decide) rfl ?_ | refine T.alloc (e := 43) (z := .agg #[.int .u64 0, .int .u64 0, .int .u64 0, .int .u64 0]) (cs := [.val (.int .u64 0), .val (.int .u64 0), .val (.int .u64 0), .val (.int .u64 0)]) (by kernel_rfl) rfl (by decide) rfl rfl ?_ | refine T.store (t := 43) rfl rfl rfl (by kernel_rfl) (by kernel_rfl) (Nat.le_of_ble_eq_true (by kernel_rfl)) rfl rfl ?_ | refine T.alloc (e := 45) (z := .agg #[.int .u64 0, .int .u64 0, .int .u64 0, .int .u64 0, .int .i64 0, .int .i64 0]) (cs := [.val (.int .u64 0), .val (.int .u64 0), .val (.int .u64 0), .val (.int .u64 0), .val (.int .i64 0), .val (.int .i64 0)]) (by kernel_rfl) rfl (by decide) rfl rfl ?_ | refine T.store (t := 45) rfl rfl rfl (by kernel_rfl) (by kernel_rfl) (Nat.le_of_ble_eq_true (by kernel_rfl)) rfl rfl ?_ | refine T.appNil (t := 22) (e := 45) (k := 6) (bytes := 48) rfl rfl srP (by kernel_rfl) szP (by decide) rfl ?_ | refine T.app (t := 22) (e := 45) (k := 6) (bytes := 48) rfl rfl srP (by kernel_rfl) szP (by decide) rfl rfl ?_)) | (apply LT.cons1; (first | exact arm13_1); decide) | (apply LT.guard1; rfl; rfl; rfl; decide; (first | exact arm13_1); decide) | refine LT.skip1 rfl rfl rfl (by decide) (by decide) ?_ | refine LT.skip2 rfl rfl (by decide) (by decide) ?_ | refine LT.partD rfl rfl (fun _ => ?_) (fun _ => ?_) | refine LT.partN rfl rfl (fun _ => ?_) (fun _ => ?_) | (refine LT.part1 rfl rfl (fun h => ?_) (fun h => ?_); (fail_if_success exact absurd h (by decide)); rotate_left; (fail_if_success exact absurd h (by decide)); rotate_left) | (apply HT.cons1; (first | exact arm13_1)) | (apply HT.guard1; rfl; rfl; rfl; (first | exact arm13_1)) | refine HT.skip1 rfl rfl rfl ?_ | refine HT.skip2 rfl rfl ?_ | refine HT.partD rfl rfl (fun _ => ?_) (fun _ => ?_) | refine HT.partN rfl rfl (fun _ => ?_) (fun _ => ?_) | (refine HT.part1 rfl rfl (fun h => ?_) (fun h => ?_); (fail_if_success exact absurd h (by decide)); rotate_left; (fail_if_success exact absurd h (by decide)); rotate_left))
            refine ⟨n + 1, by omega, by omega, ?_⟩
            rw [keepTo_skip (.inr hnk)]
            (apply Sub.mk; (focus (repeat (first | exact .nil | refine .other (.keep rfl rfl) ?_ | refine .other (.aref rfl rfl rfl) ?_ | refine .other (.val rfl (by first | rfl | (congr 1; first | omega | assumption | (symm; assumption)) | (simp; omega))) ?_ | refine .other .dead ?_ | refine .other (.sl rfl (.row _ _ _ _) rfl) ?_ | refine .other (.sl rfl (.sl _ _) rfl) ?_ | refine .other (.sl rfl (.full _ _) rfl) ?_ | refine .other (.slNil rfl rfl) ?_ | refine .rowNil rfl rfl rfl ?_ | refine .row rfl (by first | rfl | assumption | (rw [← List.map_append]; first | done | rfl | congr 1)) rfl rfl ?_))); (focus (repeat (first | exact .nil | refine KeepB.same rfl rfl rfl ?_ | refine KeepB.sameA rfl rfl rfl ?_))); (focus (repeat (first | exact .nil | refine KeepA.cons rfl (by first | rfl | assumption | exact List.map_set | exact List.map_set.symm | (rw [← List.map_append]; first | done | rfl | congr 1) | (congr 1; first | omega | assumption)) ?_))))
          · have hni' : ¬ (n : Int) = i := by omega
            have hnk' : ¬ (n : Int) = k := by omega
            repeat' (first | refine CT.seqR ?_ | refine CT.seqD (id := 11) 14 (by kernel_rfl) (by kernel_rfl) ?_ | refine CT.draw (id := 11) 14 (by kernel_rfl) (by kernel_rfl) ?_ | refine CT.region ?_ | refine CT.seq1 ?_ | refine CT.block ?_ | refine CT.condT rfl ?_ | refine CT.condF rfl ?_ | refine CT.condD rfl (fun _ => ?_) (fun _ => ?_) | refine CT.condN rfl (fun _ => ?_) (fun _ => ?_) | refine CT.cond rfl (fun _ => ?_) (fun _ => ?_) | refine CT.skip ?_ | refine CT.exit ?_ | refine CT.ret ?_ | refine CT.goto ?_ | refine CT.label ?_ | refine LT.nil ?_ | refine HT.nil1 ?_ | (refine LT.consT ?_; (first | refine T.callRow Try.func30 rfl rfl rfl ((g_eSort _ (by first | omega | (simp; omega) | simp))) (by decide) rfl ?_ | refine T.alloc (e := 43) (z := .agg #[.int .u64 0, .int .u64 0, .int .u64 0, .int .u64 0]) (cs := [.val (.int .u64 0), .val (.int .u64 0), .val (.int .u64 0), .val (.int .u64 0)]) (by kernel_rfl) rfl (by decide) rfl rfl ?_ | refine T.store (t := 43) rfl rfl rfl (by kernel_rfl) (by kernel_rfl) (Nat.le_of_ble_eq_true (by kernel_rfl)) rfl rfl ?_ | refine T.alloc (e := 45) (z := .agg #[.int .u64 0, .int .u64 0, .int .u64 0, .int .u64 0, .int .i64 0, .int .i64 0]) (cs := [.val (.int .u64 0), .val (.int .u64 0), .val (.int .u64 0), .val (.int .u64 0), .val (.int .i64 0), .val (.int .i64 0)]) (by kernel_rfl) rfl (by decide) rfl rfl ?_ | refine T.store (t := 45) rfl rfl rfl (by kernel_rfl) (by kernel_rfl) (Nat.le_of_ble_eq_true (by kernel_rfl)) rfl rfl ?_ | refine T.appNil (t := 22) (e := 45) (k := 6) (bytes := 48) rfl rfl srP (by kernel_rfl) szP (by decide) rfl ?_ | refine T.app (t := 22) (e := 45) (k := 6) (bytes := 48) rfl rfl srP (by kernel_rfl) szP (by decide) rfl rfl ?_)) | (apply LT.cons1; (first | exact arm13_1); decide) | (apply LT.guard1; rfl; rfl; rfl; decide; (first | exact arm13_1); decide) | refine LT.skip1 rfl rfl rfl (by decide) (by decide) ?_ | refine LT.skip2 rfl rfl (by decide) (by decide) ?_ | refine LT.partD rfl rfl (fun _ => ?_) (fun _ => ?_) | refine LT.partN rfl rfl (fun _ => ?_) (fun _ => ?_) | (refine LT.part1 rfl rfl (fun h => ?_) (fun h => ?_); (fail_if_success exact absurd h (by decide)); rotate_left; (fail_if_success exact absurd h (by decide)); rotate_left) | (apply HT.cons1; (first | exact arm13_1)) | (apply HT.guard1; rfl; rfl; rfl; (first | exact arm13_1)) | refine HT.skip1 rfl rfl rfl ?_ | refine HT.skip2 rfl rfl ?_ | refine HT.partD rfl rfl (fun _ => ?_) (fun _ => ?_) | refine HT.partN rfl rfl (fun _ => ?_) (fun _ => ?_) | (refine HT.part1 rfl rfl (fun h => ?_) (fun h => ?_); (fail_if_success exact absurd h (by decide)); rotate_left; (fail_if_success exact absurd h (by decide)); rotate_left))
            refine ⟨n + 1, by omega, by omega, ?_⟩
            rw [keepTo_take hni hnk hlt]
            (apply Sub.mk; (focus (repeat (first | exact .nil | refine .other (.keep rfl rfl) ?_ | refine .other (.aref rfl rfl rfl) ?_ | refine .other (.val rfl (by first | rfl | (congr 1; first | omega | assumption | (symm; assumption)) | (simp; omega))) ?_ | refine .other .dead ?_ | refine .other (.sl rfl (.row _ _ _ _) rfl) ?_ | refine .other (.sl rfl (.sl _ _) rfl) ?_ | refine .other (.sl rfl (.full _ _) rfl) ?_ | refine .other (.slNil rfl rfl) ?_ | refine .rowNil rfl rfl rfl ?_ | refine .row rfl (by first | rfl | assumption | (rw [← List.map_append]; first | done | rfl | congr 1)) rfl rfl ?_))); (focus (repeat (first | exact .nil | refine KeepB.same rfl rfl rfl ?_ | refine KeepB.sameA rfl rfl rfl ?_))); (focus (repeat (first | exact .nil | refine KeepA.cons rfl (by first | rfl | assumption | exact List.map_set | exact List.map_set.symm | (rw [← List.map_append]; first | done | rfl | congr 1) | (congr 1; first | omega | assumption)) ?_))))
      · obtain rfl : n = o.length := by omega
        have hkl : (keepTo o i k o.length).length ≤ 4096 := by
          rw [if_pos (by omega), if_pos (by omega)] at hkn; omega
        have hsl := step_length hs
        have gS := g_eSort (keepTo o i k o.length ++ [⟨W, o[i].len, o[i].act⟩]) (by simp only [List.length_append, List.length_singleton]; omega)
        rw [List.map_append] at gS
        repeat' (first | (refine LT.consT ?_; refine T.callRow Try.func30 rfl rfl rfl gS (by decide) rfl ?_) | refine CT.seqR ?_ | refine CT.seqD (id := 11) 14 (by kernel_rfl) (by kernel_rfl) ?_ | refine CT.draw (id := 11) 14 (by kernel_rfl) (by kernel_rfl) ?_ | refine CT.region ?_ | refine CT.seq1 ?_ | refine CT.block ?_ | refine CT.condT rfl ?_ | refine CT.condF rfl ?_ | refine CT.condD rfl (fun _ => ?_) (fun _ => ?_) | refine CT.condN rfl (fun _ => ?_) (fun _ => ?_) | refine CT.cond rfl (fun _ => ?_) (fun _ => ?_) | refine CT.skip ?_ | refine CT.exit ?_ | refine CT.ret ?_ | refine CT.goto ?_ | refine CT.label ?_ | refine LT.nil ?_ | refine HT.nil1 ?_ | (refine LT.consT ?_; (first | refine T.callRow Try.func30 rfl rfl rfl ((g_eSort _ (by first | omega | (simp; omega) | simp))) (by decide) rfl ?_ | refine T.alloc (e := 43) (z := .agg #[.int .u64 0, .int .u64 0, .int .u64 0, .int .u64 0]) (cs := [.val (.int .u64 0), .val (.int .u64 0), .val (.int .u64 0), .val (.int .u64 0)]) (by kernel_rfl) rfl (by decide) rfl rfl ?_ | refine T.store (t := 43) rfl rfl rfl (by kernel_rfl) (by kernel_rfl) (Nat.le_of_ble_eq_true (by kernel_rfl)) rfl rfl ?_ | refine T.alloc (e := 45) (z := .agg #[.int .u64 0, .int .u64 0, .int .u64 0, .int .u64 0, .int .i64 0, .int .i64 0]) (cs := [.val (.int .u64 0), .val (.int .u64 0), .val (.int .u64 0), .val (.int .u64 0), .val (.int .i64 0), .val (.int .i64 0)]) (by kernel_rfl) rfl (by decide) rfl rfl ?_ | refine T.store (t := 45) rfl rfl rfl (by kernel_rfl) (by kernel_rfl) (Nat.le_of_ble_eq_true (by kernel_rfl)) rfl rfl ?_ | refine T.appNil (t := 22) (e := 45) (k := 6) (bytes := 48) rfl rfl srP (by kernel_rfl) szP (by decide) rfl ?_ | refine T.app (t := 22) (e := 45) (k := 6) (bytes := 48) rfl rfl srP (by kernel_rfl) szP (by decide) rfl rfl ?_)) | (apply LT.cons1; (first | exact arm13_1); decide) | (apply LT.guard1; rfl; rfl; rfl; decide; (first | exact arm13_1); decide) | refine LT.skip1 rfl rfl rfl (by decide) (by decide) ?_ | refine LT.skip2 rfl rfl (by decide) (by decide) ?_ | refine LT.partD rfl rfl (fun _ => ?_) (fun _ => ?_) | refine LT.partN rfl rfl (fun _ => ?_) (fun _ => ?_) | (refine LT.part1 rfl rfl (fun h => ?_) (fun h => ?_); (fail_if_success exact absurd h (by decide)); rotate_left; (fail_if_success exact absurd h (by decide)); rotate_left) | (apply HT.cons1; (first | exact arm13_1)) | (apply HT.guard1; rfl; rfl; rfl; (first | exact arm13_1)) | refine HT.skip1 rfl rfl rfl ?_ | refine HT.skip2 rfl rfl ?_ | refine HT.partD rfl rfl (fun _ => ?_) (fun _ => ?_) | refine HT.partN rfl rfl (fun _ => ?_) (fun _ => ?_) | (refine HT.part1 rfl rfl (fun h => ?_) (fun h => ?_); (fail_if_success exact absurd h (by decide)); rotate_left; (fail_if_success exact absurd h (by decide)); rotate_left))
        refine ⟨rfl, sortE (keepTo o i k o.length ++ [mEnt o i k]), ⟨sortE_desc _, step_ok hs ho, by omega, by rw [← mergeN_some hs]; exact hm⟩, by omega, ?_⟩
        rw [e4]
        (apply Sub.mk; (focus (repeat (first | exact .nil | refine .other (.keep rfl rfl) ?_ | refine .other (.aref rfl rfl rfl) ?_ | refine .other (.val rfl (by first | rfl | (congr 1; first | omega | assumption | (symm; assumption)) | (simp; omega))) ?_ | refine .other .dead ?_ | refine .other (.sl rfl (.row _ _ _ _) rfl) ?_ | refine .other (.sl rfl (.sl _ _) rfl) ?_ | refine .other (.sl rfl (.full _ _) rfl) ?_ | refine .other (.slNil rfl rfl) ?_ | refine .rowNil rfl rfl rfl ?_ | refine .row rfl (by first | rfl | assumption | (rw [← List.map_append]; first | done | rfl | congr 1)) rfl rfl ?_))); (focus (repeat (first | exact .nil | refine KeepB.same rfl rfl rfl ?_ | refine KeepB.sameA rfl rfl rfl ?_))); (focus (repeat (first | exact .nil | refine KeepA.cons rfl (by first | rfl | assumption | exact List.map_set | exact List.map_set.symm | (rw [← List.map_append]; first | done | rfl | congr 1) | (congr 1; first | omega | assumption)) ?_))))
  · intro H
    repeat' (first | refine CT.seqR ?_ | refine CT.seqD (id := 11) 14 (by kernel_rfl) (by kernel_rfl) ?_ | refine CT.draw (id := 11) 14 (by kernel_rfl) (by kernel_rfl) ?_ | refine CT.region ?_ | refine CT.seq1 ?_ | refine CT.block ?_ | refine CT.condT rfl ?_ | refine CT.condF rfl ?_ | refine CT.condD rfl (fun _ => ?_) (fun _ => ?_) | refine CT.condN rfl (fun _ => ?_) (fun _ => ?_) | refine CT.cond rfl (fun _ => ?_) (fun _ => ?_) | refine CT.skip ?_ | refine CT.exit ?_ | refine CT.ret ?_ | refine LT.nil ?_ | refine HT.nil1 ?_ | (refine LT.consT ?_; (first | refine T.callRow Try.func30 rfl rfl rfl ((g_eSort _ (by first | omega | (simp; omega) | simp))) (by decide) rfl ?_ | refine T.alloc (e := 43) (z := .agg #[.int .u64 0, .int .u64 0, .int .u64 0, .int .u64 0]) (cs := [.val (.int .u64 0), .val (.int .u64 0), .val (.int .u64 0), .val (.int .u64 0)]) (by kernel_rfl) rfl (by decide) rfl rfl ?_ | refine T.store (t := 43) rfl rfl rfl (by kernel_rfl) (by kernel_rfl) (Nat.le_of_ble_eq_true (by kernel_rfl)) rfl rfl ?_ | refine T.alloc (e := 45) (z := .agg #[.int .u64 0, .int .u64 0, .int .u64 0, .int .u64 0, .int .i64 0, .int .i64 0]) (cs := [.val (.int .u64 0), .val (.int .u64 0), .val (.int .u64 0), .val (.int .u64 0), .val (.int .i64 0), .val (.int .i64 0)]) (by kernel_rfl) rfl (by decide) rfl rfl ?_ | refine T.store (t := 45) rfl rfl rfl (by kernel_rfl) (by kernel_rfl) (Nat.le_of_ble_eq_true (by kernel_rfl)) rfl rfl ?_ | refine T.appNil (t := 22) (e := 45) (k := 6) (bytes := 48) rfl rfl srP (by kernel_rfl) szP (by decide) rfl ?_ | refine T.app (t := 22) (e := 45) (k := 6) (bytes := 48) rfl rfl srP (by kernel_rfl) szP (by decide) rfl rfl ?_)) | (apply LT.cons1; (first | exact arm13_1); decide) | (apply LT.guard1; rfl; rfl; rfl; decide; (first | exact arm13_1); decide) | refine LT.skip1 rfl rfl rfl (by decide) (by decide) ?_ | refine LT.skip2 rfl rfl (by decide) (by decide) ?_ | refine LT.partD rfl rfl (fun _ => ?_) (fun _ => ?_) | refine LT.partN rfl rfl (fun _ => ?_) (fun _ => ?_) | (refine LT.part1 rfl rfl (fun h => ?_) (fun h => ?_); (fail_if_success exact absurd h (by decide)); rotate_left; (fail_if_success exact absurd h (by decide)); rotate_left) | (apply HT.cons1; (first | exact arm13_1)) | (apply HT.guard1; rfl; rfl; rfl; (first | exact arm13_1)) | refine HT.skip1 rfl rfl rfl ?_ | refine HT.skip2 rfl rfl ?_ | refine HT.partD rfl rfl (fun _ => ?_) (fun _ => ?_) | refine HT.partN rfl rfl (fun _ => ?_) (fun _ => ?_) | (refine HT.part1 rfl rfl (fun h => ?_) (fun h => ?_); (fail_if_success exact absurd h (by decide)); rotate_left; (fail_if_success exact absurd h (by decide)); rotate_left))
    refine CT.label ?_
    refine CT.sub ?_ (H (sortE xs) ⟨sortE_desc _, fun x hx => hok x (sortE_mem.1 hx), by rw [sortE_length]; exact hl, by rw [sortE_length]; rfl⟩)
    (apply Sub.mk; (focus (repeat (first | exact .nil | refine .other (.keep rfl rfl) ?_ | refine .other (.aref rfl rfl rfl) ?_ | refine .other (.val rfl (by first | rfl | (congr 1; first | omega | assumption | (symm; assumption)) | (simp; omega))) ?_ | refine .other .dead ?_ | refine .other (.sl rfl (.row _ _ _ _) rfl) ?_ | refine .other (.sl rfl (.sl _ _) rfl) ?_ | refine .other (.sl rfl (.full _ _) rfl) ?_ | refine .other (.slNil rfl rfl) ?_ | refine .rowNil rfl rfl rfl ?_ | refine .row rfl (by first | rfl | assumption | (rw [← List.map_append]; first | done | rfl | congr 1)) rfl rfl ?_))); (focus (repeat (first | exact .nil | refine KeepB.same rfl rfl rfl ?_ | refine KeepB.sameA rfl rfl rfl ?_))); (focus (repeat (first | exact .nil | refine KeepA.cons rfl (by first | rfl | assumption | exact List.map_set | exact List.map_set.symm | (rw [← List.map_append]; first | done | rfl | congr 1) | (congr 1; first | omega | assumption)) ?_))))
end Go.Proofs.Ytjibochjmmehcaa

/- What merging comes to, in plain Lean. -/
namespace Go.Proofs.Ytjibochjmmehcaa
set_option linter.unusedSimpArgs false
set_option linter.unusedVariables false
open Go
theorem step_nil : stepM [] = none := rfl
theorem mergeN_end : ∀ (n : Nat) (l : List Ent), l.length ≤ n → stepM (mergeN n l) = none
  | 0, l, h => by
    obtain rfl : l = [] := List.eq_nil_of_length_eq_zero (by omega)
    exact step_nil
  | n + 1, l, h => by
    cases hs : stepM l with
    | none => simp only [mergeN, hs]
    | some l' =>
      have := step_length hs
      simp only [mergeN, hs]
      exact mergeN_end n l' (by omega)
theorem step_sorted {l l' : List Ent} (h : stepM l = some l') : sortE l' = l' := by
  unfold stepM at h
  rw [Option.map_eq_some_iff] at h
  obtain ⟨p, _, rfl⟩ := h
  exact sortE_sortE _
theorem mergeN_sorted : ∀ (n : Nat) (l : List Ent), sortE l = l → sortE (mergeN n l) = mergeN n l
  | 0, l, h => h
  | n + 1, l, h => by
    cases hs : stepM l with
    | none => simp only [mergeN, hs]; exact h
    | some l' => simp only [mergeN, hs]; exact mergeN_sorted n l' (step_sorted hs)
theorem mergeE_end (l : List Ent) : stepM (mergeE l) = none := mergeN_end _ _ (by rw [sortE_length]; exact Nat.le_refl _)
theorem mergeE_sorted (l : List Ent) : sortE (mergeE l) = mergeE l := mergeN_sorted _ _ (sortE_sortE l)
/-- What was merged is merged. -/
theorem mergeE_mergeE (l : List Ent) : mergeE (mergeE l) = mergeE l := by
  show mergeN (mergeE l).length (sortE (mergeE l)) = mergeE l
  rw [mergeE_sorted]
  exact mergeN_none (mergeE_end l) _
/-- In whatever order a row comes. -/
theorem mergeE_perm {l l' : List Ent} (h : l'.Perm l) : mergeE l' = mergeE l := by
  unfold mergeE
  rw [h.length_eq, sortE_of_perm h]
theorem mergeN_length : ∀ (n : Nat) (l : List Ent), (mergeN n l).length ≤ l.length
  | 0, l => Nat.le_refl _
  | n + 1, l => by
    cases hs : stepM l with
    | none => simp only [mergeN, hs]; exact Nat.le_refl _
    | some l' =>
      have := step_length hs
      have := mergeN_length n l'
      simp only [mergeN, hs]; omega
theorem mergeE_length (l : List Ent) : (mergeE l).length ≤ l.length := by
  have := mergeN_length l.length (sortE l)
  rw [sortE_length] at this
  exact this
theorem mergeN_ok : ∀ (n : Nat) (l : List Ent), (∀ x ∈ l, x.w.ok) → ∀ x ∈ mergeN n l, x.w.ok
  | 0, l, h => h
  | n + 1, l, h => by
    cases hs : stepM l with
    | none => simp only [mergeN, hs]; exact h
    | some l' => simp only [mergeN, hs]; exact mergeN_ok n l' (step_ok hs h)
theorem mergeE_ok {l : List Ent} (h : ∀ x ∈ l, x.w.ok) : ∀ x ∈ mergeE l, x.w.ok := mergeN_ok _ _ fun x hx => h x (sortE_mem.1 hx)
end Go.Proofs.Ytjibochjmmehcaa
