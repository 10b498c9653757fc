/- What a merged word matches; what merged rows tell, in plain Lean. -/
import Derived.Test.YtjibochjmmehcaaXMergeA
import Derived.Test.YtjibochjmmehcaaXLawTells
import Derived.Test.YtjibochjmmehcaaXLen
import Derived.Test.YtjibochjmmehcaaXWalkC
import Derived.Test.YtjibochjmmehcaaXPlan
import Derived.Test.YtjibochjmmehcaaXGoods
import Derived.Test.YtjibochjmmehcaaXAbs8
import Derived.Test.YtjibochjmmehcaaXAbs15
import Derived.Test.YtjibochjmmehcaaXPfxW
import Derived.Test.YtjibochjmmehcaaXTab
namespace Go.Proofs.Ytjibochjmmehcaa
set_option linter.unusedSimpArgs false
set_option linter.unusedVariables false
open Go
/-- One word tells nothing but what the other one tells, and the same. -/
def Cov (x y : W2) : Prop := ∀ i, i < 128 → abit x.m i = true → abit y.m i = true ∧ abit x.v i = abit y.v i
theorem Cov.refl (x : W2) : Cov x x := fun _ _ h => ⟨h, rfl⟩
theorem Cov.trans {x y z : W2} (h1 : Cov x y) (h2 : Cov y z) : Cov x z := fun i hi hm => by
  obtain ⟨a, b⟩ := h1 i hi hm
  obtain ⟨c, d⟩ := h2 i hi a
  exact ⟨c, b.trans d⟩
/-! ### Rows -/
/-- Each of the first row is covered by one of the second as long, with its action. -/
def Part (l m : List Ent) : Prop := ∀ x ∈ l, ∃ y ∈ m, y.len = x.len ∧ y.act = x.act ∧ Cov y.w x.w
theorem Part.trans {l m r : List Ent} (h1 : Part l m) (h2 : Part m r) : Part l r := fun x hx => by
  obtain ⟨y, hy, a1, a2, a3⟩ := h1 x hx
  obtain ⟨z, hz, b1, b2, b3⟩ := h2 y hy
  exact ⟨z, hz, b1.trans a1, b2.trans a2, b3.trans a3⟩
end Go.Proofs.Ytjibochjmmehcaa

/- A table's entries: which address they match, and what they tell; in plain Lean. -/
namespace Go.Proofs.Ytjibochjmmehcaa
set_option linter.unusedSimpArgs false
set_option linter.unusedVariables false
open Go
theorem cut_canon {p : Pfx} (h : Canon p) : pMake p.a p.len = p := by
  unfold pMake
  rw [clamp_id h.lo h.hi]
  have : aCut p.a p.len = p.a := ok_ext (ok_and h.ok (mask_ok _)) h.ok fun i hi => by
    unfold aCut
    rw [abit_and h.ok (mask_ok _), mask_bit _ hi]
    by_cases c : (i : Int) < p.len
    · rw [decide_eq_true c, Bool.and_true]
    · rw [decide_eq_false c, Bool.and_false, h.zero i hi (by omega)]
  rw [this]
/-- A route's entry. -/
def entR (r : Rte) : Ent := ⟨⟨r.p.a, aMask r.p.len⟩, r.p.len, r.act⟩
theorem entR_ok {r : Rte} (h : Canon r.p) : (entR r).w.ok := ⟨h.ok, mask_ok _⟩
theorem ents_ok {rs : List Rte} (h : ∀ r ∈ rs, Canon r.p) : ∀ x ∈ rs.map entR, x.w.ok := fun x hx => by
  obtain ⟨r, hr, rfl⟩ := List.mem_map.1 hx
  exact entR_ok (h r hr)
/-- The best route for an address: length by length, from the longest. -/
def bestAtO (l : List Rte) (a : A2) (n : Int) : Option Rte := l.find? fun r => decide (r.p.len = n) && rpMatch r.p a
def bestTo' (l : List Rte) (a : A2) : Nat → Option Rte
  | 0 => none
  | k + 1 => (bestAtO l a k).or (bestTo' l a k)
def bestO (l : List Rte) (a : A2) : Option Rte := bestTo' l a 129
theorem bestAt_none {l : List Rte} {a : A2} {n : Int} : bestAtO l a n = none ↔ ∀ r ∈ l, r.p.len = n → rpMatch r.p a = false := by
  unfold bestAtO
  rw [List.find?_eq_none]
  refine forall_congr' fun r => forall_congr' fun _ => ?_
  rw [Bool.and_eq_true, decide_eq_true_eq]
  constructor
  · intro h e
    cases hq : rpMatch r.p a with
    | false => rfl
    | true => exact absurd ⟨e, hq⟩ h
  · rintro h ⟨e, q⟩
    rw [h e] at q; cases q
theorem bestTo_skip {l : List Rte} {a : A2} {n : Nat} : ∀ m, n ≤ m → (∀ k : Nat, n ≤ k → k < m → bestAtO l a k = none) → bestTo' l a m = bestTo' l a n
  | 0, h, _ => by rw [show n = 0 by omega]
  | m + 1, h, hk => by
    by_cases e : n = m + 1
    · rw [e]
    · rw [bestTo', hk m (by omega) (by omega), Option.none_or]
      exact bestTo_skip m (by omega) fun k h1 h2 => hk k h1 (by omega)
theorem best_hit' {l : List Rte} {a : A2} {n : Nat} {r : Rte} (hn : n ≤ 128) (hk : ∀ k : Nat, n < k → k ≤ 128 → bestAtO l a k = none) (h : bestAtO l a n = some r) : bestO l a = some r := by
  unfold bestO
  rw [bestTo_skip (n := n + 1) 129 (by omega) fun k h1 h2 => hk k (by omega) (by omega), bestTo', h]
  rfl
theorem best_none' {l : List Rte} {a : A2} (hk : ∀ k : Nat, k ≤ 128 → bestAtO l a k = none) : bestO l a = none := by
  unfold bestO
  rw [bestTo_skip (n := 0) 129 (by omega) fun k h1 h2 => hk k (by omega)]
  rfl
theorem bestO_spec {l : List Rte} (hc : ∀ r ∈ l, Canon r.p) (a : A2) : (bestO l a = none ∧ ∀ r ∈ l, rpMatch r.p a = false) ∨ ∃ r ∈ l, bestO l a = some r ∧ rpMatch r.p a = true ∧ ∀ s ∈ l, rpMatch s.p a = true → s.p.len ≤ r.p.len := by
  suffices H : ∀ m : Nat, m ≤ 129 → (∀ k : Nat, m ≤ k → k < 129 → bestAtO l a k = none) → ((bestO l a = none ∧ ∀ r ∈ l, rpMatch r.p a = false) ∨ ∃ r ∈ l, bestO l a = some r ∧ rpMatch r.p a = true ∧ ∀ s ∈ l, rpMatch s.p a = true → s.p.len ≤ r.p.len) from
    H 129 (Nat.le_refl _) fun k h1 h2 => by omega
  intro m
  induction m with
  | zero =>
    intro _ hk
    refine .inl ⟨best_none' fun k hk' => hk k (by omega) (by omega), fun r hr => ?_⟩
    have := hc r hr
    exact (bestAt_none.1 (hk r.p.len.toNat (by omega) (by have := this.hi; omega))) r hr (by have := this.lo; omega)
  | succ m ih =>
    intro hm hk
    cases hb : bestAtO l a m with
    | none =>
      refine ih (by omega) fun k h1 h2 => ?_
      by_cases e : k = m
      · subst e; exact hb
      · exact hk k (by omega) h2
    | some r =>
      have h1 := List.mem_of_find?_eq_some hb
      have h2 := List.find?_some hb
      rw [Bool.and_eq_true, decide_eq_true_eq] at h2
      refine .inr ⟨r, h1, best_hit' (by omega) (fun k h3 h4 => hk k (by omega) (by omega)) hb, h2.2, fun s hs hsm => ?_⟩
      refine Classical.byContradiction fun hlt => ?_
      have hcs := hc s hs
      have := bestAt_none.1 (hk s.p.len.toNat (by have := h2.1; omega) (by have := hcs.hi; omega)) s hs (by have := hcs.lo; omega)
      rw [this] at hsm; cases hsm
theorem keepR_canon {rs : List Rte} (ht : TableR rs) : ∀ r ∈ keepR rs, Canon r.p := fun r hr => ht.canon r ((keepR_spec ht).sub r hr)
/-- A table's entries, in each mode. -/
noncomputable def buildE (rs : List Rte) (mode : Int) : List Ent :=
  if mode = 0 then sortE (rs.map entR) else if mode = 1 then sortE ((keepR rs).map entR) else mergeE ((keepR rs).map entR)
theorem keepR_length {rs : List Rte} (ht : TableR rs) : (keepR rs).length ≤ rs.length := by
  have hk := keepR_spec ht
  have e : keepR rs = rs.filter fun r => decide (r ∈ keepR rs) := sorted_eq hk.sorted (ht.sorted.sublist List.filter_sublist) fun r => by
    rw [List.mem_filter, decide_eq_true_eq]
    exact ⟨fun h => ⟨hk.sub r h, h⟩, fun h => h.2⟩
  rw [e]
  exact List.length_filter_le _ _
theorem buildE_len {rs : List Rte} (ht : TableR rs) : (buildE rs 0).length = rs.length ∧ (buildE rs 1).length ≤ (buildE rs 0).length ∧ (buildE rs 2).length ≤ (buildE rs 1).length := by
  have h1 := keepR_length ht
  have h2 := mergeE_length ((keepR rs).map entR)
  rw [List.length_map] at h2
  unfold buildE
  rw [if_pos rfl, if_neg (by decide), if_pos rfl, if_neg (by decide), if_neg (by decide), sortE_length, sortE_length, List.length_map, List.length_map]
  exact ⟨rfl, h1, h2⟩
end Go.Proofs.Ytjibochjmmehcaa

/- ref05.Tell, ref04.Meet, ref10.Simple. -/
namespace Go.Proofs.Ytjibochjmmehcaa
set_option linter.unusedSimpArgs false
set_option linter.unusedVariables false
open Go Go.RowKit Go.Shelf
/-- No clash among the first i, and of the one behind them with j of these. -/
def ClearS (xs : List Ent) (i j : Nat) : Prop := ∀ (p q : Nat) e f, xs[p]? = some e → xs[q]? = some f → q < p → (p < i ∨ p = i ∧ q < j) → ¬ (e.len = f.len ∧ rMeet e.w f.w = true)
theorem ClearS.next {xs : List Ent} {i : Nat} (h : ClearS xs i i) : ClearS xs (i + 1) 0 := fun p q e f h1 h2 h3 h4 => h p q e f h1 h2 h3 (by omega)
theorem ClearS.start {xs : List Ent} : ClearS xs 0 0 := fun p q e f h1 h2 h3 h4 => by omega
theorem ClearS.step {xs : List Ent} {i j : Nat} (h : ClearS xs i j) (hi : i < xs.length) (hj : j < xs.length) (hn : ¬ (xs[i].len = xs[j].len ∧ rMeet xs[i].w xs[j].w = true)) : ClearS xs i (j + 1) := fun p q e f h1 h2 h3 h4 => by
  by_cases e1 : p = i ∧ q = j
  · obtain ⟨rfl, rfl⟩ := e1
    rw [List.getElem?_eq_getElem hi] at h1
    rw [List.getElem?_eq_getElem hj] at h2
    injection h1 with h1; injection h2 with h2
    rw [← h1, ← h2]; exact hn
  · exact h p q e f h1 h2 h3 (by omega)
theorem ClearS.simple {xs : List Ent} (h : ClearS xs xs.length 0) : SimpleR xs := by
  refine List.pairwise_iff_getElem.2 fun q p hq hp hqp hc => ?_
  exact h p q _ _ (List.getElem?_eq_getElem hp) (List.getElem?_eq_getElem hq) hqp (.inl hp) ⟨hc.1, hc.2⟩
theorem SimpleR.not {xs : List Ent} {i j : Nat} (hi : i < xs.length) (hj : j < i) (hn : xs[i].len = xs[j].len ∧ rMeet xs[i].w xs[j].w = true) : ¬ SimpleR xs := fun h => by
  have := (List.pairwise_iff_getElem.1 h) j i (by omega) hi hj
  exact this hn
attribute [local irreducible] OpH OpT LT CT HT Good GoodO CTI rMeet rMatch
end Go.Proofs.Ytjibochjmmehcaa

/- law10.same, merge.Simple, merge.Mode, word.Covers, word.Free. -/
namespace Go.Proofs.Ytjibochjmmehcaa
set_option linter.unusedSimpArgs false
set_option linter.unusedVariables false
open Go Go.RowKit Go.Shelf
attribute [local irreducible] OpH OpT LT CT HT Good rMeet rMatch
theorem arm12_1 {p : Prop} (h : p := by first | exact OpH.assign (v := .val _) rfl | exact OpH.assign (v := .sl _ _) rfl | exact OpH.assign (v := .row _ _ _ _) rfl | exact OpH.assign (v := .full _ _) rfl | exact OpH.assign (v := .ptr _ _) rfl | exact OpH.assign (v := .cptr _) rfl | exact OpH.assign (v := .cloB _ _) rfl | exact OpH.assign (v := .clo _ _) rfl | exact OpH.assign (v := .pr _) rfl | exact OpH.assign (v := .arow _) rfl | exact OpH.assign (v := .aptr _ _ _ _) rfl | exact OpH.assign (v := .asub _ _ _ _) rfl | exact OpH.assign (v := .tup _) rfl | exact OpH.move (v := .val _) rfl | exact OpH.move (v := .sl _ _) rfl | exact OpH.move (v := .row _ _ _ _) rfl | exact OpH.move (v := .full _ _) rfl | exact OpH.move (v := .ptr _ _) rfl | exact OpH.move (v := .cptr _) rfl | exact OpH.move (v := .cloB _ _) rfl | exact OpH.move (v := .clo _ _) rfl | exact OpH.move (v := .pr _) rfl | exact OpH.move (v := .arow _) rfl | exact OpH.move (v := .aptr _ _ _ _) rfl | exact OpH.move (v := .asub _ _ _ _) rfl | exact OpH.move (v := .tup _) rfl | exact OpH.callFW Try.func11 rfl rfl rfl ((g_law5Of _ (by first | omega | (simp; omega) | simp))) | exact OpH.lenM (t := 24) rfl (.sl _ _) (by kernel_rfl) | exact OpH.lenM (t := 24) rfl (.row _ _ _ _) (by kernel_rfl) | exact OpH.lenM (t := 24) rfl (.full _ _) (by kernel_rfl) | exact OpH.len (t := 24) rfl slP (by kernel_rfl) | exact OpH.lenNil (t := 24) rfl (by kernel_rfl) | exact OpH.bin rfl rfl (pb_neq_t (by first | omega | assumption)) | exact OpH.bin rfl rfl (pb_neq_f (by first | omega | assumption)) | exact OpH.bin rfl rfl (pb_neq) | exact OpH.bin rfl rfl (pb_lss_t (by omega)) | exact OpH.bin rfl rfl (pb_lss_f (by omega)) | exact OpH.bin rfl rfl (pb_lss) | exact OpH.indexS (t := 24) (k := 6) rfl slP rfl rfl (by kernel_rfl) (map_at bd) rfl | exact loadC6 (t := 61) rfl (by kernel_rfl) | exact loadB6 (t := 61) rfl rfl (by kernel_rfl) rfl | exact OpH.bin rfl rfl (pb_of (pb_agg eqg_61 (neq_61 _ _ _ _ _ _ _ _ _ _ _ _)) (nsame_f (by first | rfl | assumption))) | exact OpH.bin rfl rfl (pb_of (pb_agg eqg_61 (neq_61 _ _ _ _ _ _ _ _ _ _ _ _)) (nsame_t (by assumption))) | exact OpH.bin rfl rfl (pb_agg eqg_61 (neq_61 _ _ _ _ _ _ _ _ _ _ _ _)) | exact OpH.bin rfl rfl (pb_inc (by omega)) | exact OpH.bin rfl rfl (pb_addN rfl (by omega)) | exact OpH.bin rfl rfl (pb_add (by omega)) | exact OpH.bin rfl rfl (pb_addw)) : p := h
set_option maxRecDepth 100000 in
set_option maxHeartbeats 2000000 in
theorem g_same10 (xs ys : List Ent) (hx : xs.length ≤ 65536) (hy : ys.length ≤ 65536) : Good Try.prog 12 [.sl 6 (xs.map encE), .sl 6 (ys.map encE)] (.val (.bool (decide (xs = ys)))) := by
  refine Good.of_body (T := [(0, _), (1, _)]) Try.func12 rfl rfl rfl ?_
  intro K0 w0 hno
  by_cases hl : xs.length = ys.length
  · repeat' (first | refine CT.seqR ?_ | refine CT.seqD (id := 7) 8 (by kernel_rfl) (by kernel_rfl) ?_ | refine CT.draw (id := 7) 8 (by kernel_rfl) (by kernel_rfl) ?_ | refine CT.region ?_ | refine CT.seq1 ?_ | refine CT.block ?_ | refine CT.condT rfl ?_ | refine CT.condF rfl ?_ | refine CT.condD rfl (fun _ => ?_) (fun _ => ?_) | refine CT.condN rfl (fun _ => ?_) (fun _ => ?_) | refine CT.cond rfl (fun _ => ?_) (fun _ => ?_) | refine CT.skip ?_ | refine CT.exit ?_ | refine CT.ret ?_ | refine CT.goto ?_ | refine CT.label ?_ | refine LT.nil ?_ | refine HT.nil1 ?_ | (refine LT.consT ?_; (first | refine T.callRow Try.func11 rfl rfl rfl ((g_law5Of _ (by first | omega | (simp; omega) | simp))) (by decide) rfl ?_)) | (apply LT.cons1; (first | exact arm12_1); decide) | (apply HT.cons1; (first | exact arm12_1)) | (apply HT.guard1; rfl; rfl; rfl; (first | exact arm12_1)) | refine HT.skip1 rfl rfl rfl ?_ | refine HT.skip2 rfl rfl ?_ | refine HT.partD rfl rfl (fun _ => ?_) (fun _ => ?_) | refine HT.partN rfl rfl (fun _ => ?_) (fun _ => ?_) | (refine HT.part1 rfl rfl (fun h => ?_) (fun h => ?_); (fail_if_success exact absurd h (by decide)); rotate_left; (fail_if_success exact absurd h (by decide)); rotate_left))
    refine CT.loopX (fun k : Nat => (⟨[(1, .sl 6 (ys.map encE)), (5, .row 5 61 6 (xs.map encE)), (15, .val (.int .i64 xs.length)), (16, .val (.int .i64 k))], [], []⟩ : St))
      (fun k => k ≤ xs.length ∧ xs.take k = ys.take k) (fun k => xs.length - k) 0 ?_ ⟨by omega, rfl⟩ ?_
    · (apply Sub.mk; (focus (repeat (first | exact .nil | refine .other (.keep rfl rfl) ?_ | refine .other (.aref rfl rfl rfl) ?_ | refine .other (.val rfl (by first | rfl | (congr 1; first | omega | assumption | (symm; assumption)) | (simp; omega))) ?_ | refine .other .dead ?_ | refine .other (.sl rfl (.row _ _ _ _) rfl) ?_ | refine .other (.sl rfl (.sl _ _) rfl) ?_ | refine .other (.sl rfl (.full _ _) rfl) ?_ | refine .other (.slNil rfl rfl) ?_ | refine .rowNil rfl rfl rfl ?_ | refine .row rfl (by first | rfl | assumption | (rw [← List.map_append]; first | done | rfl | congr 1)) rfl rfl ?_))); (focus (repeat (first | exact .nil | refine KeepB.same rfl rfl rfl ?_ | refine KeepB.sameA rfl rfl rfl ?_))); (focus (repeat (first | exact .nil | refine KeepA.cons rfl (by first | rfl | assumption | exact List.map_set | exact List.map_set.symm | (rw [← List.map_append]; first | done | rfl | congr 1) | (congr 1; first | omega | assumption)) ?_))))
    rintro k ⟨hk, hc⟩
    by_cases hlt : k < xs.length
    · have hlt2 : k < ys.length := by omega
      by_cases he : xs[k] = ys[k]
      · repeat' (first | refine CT.seqR ?_ | refine CT.seqD (id := 7) 8 (by kernel_rfl) (by kernel_rfl) ?_ | refine CT.draw (id := 7) 8 (by kernel_rfl) (by kernel_rfl) ?_ | refine CT.region ?_ | refine CT.seq1 ?_ | refine CT.block ?_ | refine CT.condT rfl ?_ | refine CT.condF rfl ?_ | refine CT.condD rfl (fun _ => ?_) (fun _ => ?_) | refine CT.condN rfl (fun _ => ?_) (fun _ => ?_) | refine CT.cond rfl (fun _ => ?_) (fun _ => ?_) | refine CT.skip ?_ | refine CT.exit ?_ | refine CT.ret ?_ | refine CT.goto ?_ | refine CT.label ?_ | refine LT.nil ?_ | refine HT.nil1 ?_ | (refine LT.consT ?_; (first | refine T.callRow Try.func11 rfl rfl rfl ((g_law5Of _ (by first | omega | (simp; omega) | simp))) (by decide) rfl ?_)) | (apply LT.cons1; (first | exact arm12_1); decide) | (apply HT.cons1; (first | exact arm12_1)) | (apply HT.guard1; rfl; rfl; rfl; (first | exact arm12_1)) | refine HT.skip1 rfl rfl rfl ?_ | refine HT.skip2 rfl rfl ?_ | refine HT.partD rfl rfl (fun _ => ?_) (fun _ => ?_) | refine HT.partN rfl rfl (fun _ => ?_) (fun _ => ?_) | (refine HT.part1 rfl rfl (fun h => ?_) (fun h => ?_); (fail_if_success exact absurd h (by decide)); rotate_left; (fail_if_success exact absurd h (by decide)); rotate_left))
        refine ⟨k + 1, ⟨by omega, by rw [List.take_succ_eq_append_getElem hlt, List.take_succ_eq_append_getElem hlt2, hc, he]⟩, by omega, ?_⟩
        (apply Sub.mk; (focus (repeat (first | exact .nil | refine .other (.keep rfl rfl) ?_ | refine .other (.aref rfl rfl rfl) ?_ | refine .other (.val rfl (by first | rfl | (congr 1; first | omega | assumption | (symm; assumption)) | (simp; omega))) ?_ | refine .other .dead ?_ | refine .other (.sl rfl (.row _ _ _ _) rfl) ?_ | refine .other (.sl rfl (.sl _ _) rfl) ?_ | refine .other (.sl rfl (.full _ _) rfl) ?_ | refine .other (.slNil rfl rfl) ?_ | refine .rowNil rfl rfl rfl ?_ | refine .row rfl (by first | rfl | assumption | (rw [← List.map_append]; first | done | rfl | congr 1)) rfl rfl ?_))); (focus (repeat (first | exact .nil | refine KeepB.same rfl rfl rfl ?_ | refine KeepB.sameA rfl rfl rfl ?_))); (focus (repeat (first | exact .nil | refine KeepA.cons rfl (by first | rfl | assumption | exact List.map_set | exact List.map_set.symm | (rw [← List.map_append]; first | done | rfl | congr 1) | (congr 1; first | omega | assumption)) ?_))))
      · repeat' (first | refine CT.seqR ?_ | refine CT.seqD (id := 7) 8 (by kernel_rfl) (by kernel_rfl) ?_ | refine CT.draw (id := 7) 8 (by kernel_rfl) (by kernel_rfl) ?_ | refine CT.region ?_ | refine CT.seq1 ?_ | refine CT.block ?_ | refine CT.condT rfl ?_ | refine CT.condF rfl ?_ | refine CT.condD rfl (fun _ => ?_) (fun _ => ?_) | refine CT.condN rfl (fun _ => ?_) (fun _ => ?_) | refine CT.cond rfl (fun _ => ?_) (fun _ => ?_) | refine CT.skip ?_ | refine CT.exit ?_ | refine CT.ret ?_ | refine CT.goto ?_ | refine CT.label ?_ | refine LT.nil ?_ | refine HT.nil1 ?_ | (refine LT.consT ?_; (first | refine T.callRow Try.func11 rfl rfl rfl ((g_law5Of _ (by first | omega | (simp; omega) | simp))) (by decide) rfl ?_)) | (apply LT.cons1; (first | exact arm12_1); decide) | (apply HT.cons1; (first | exact arm12_1)) | (apply HT.guard1; rfl; rfl; rfl; (first | exact arm12_1)) | refine HT.skip1 rfl rfl rfl ?_ | refine HT.skip2 rfl rfl ?_ | refine HT.partD rfl rfl (fun _ => ?_) (fun _ => ?_) | refine HT.partN rfl rfl (fun _ => ?_) (fun _ => ?_) | (refine HT.part1 rfl rfl (fun h => ?_) (fun h => ?_); (fail_if_success exact absurd h (by decide)); rotate_left; (fail_if_success exact absurd h (by decide)); rotate_left))
        refine ⟨by first | exact .inl rfl | exact .inr rfl, _, (.cons (.tmp 4 (A := .val _) rfl (fun _ h => by cases h)) .nil), ?_, rfl⟩
        have : ¬ xs = ys := fun h => he (by subst h; rfl)
        simp [this, retsV]
    · obtain rfl : k = xs.length := by omega
      repeat' (first | refine CT.seqR ?_ | refine CT.seqD (id := 7) 8 (by kernel_rfl) (by kernel_rfl) ?_ | refine CT.draw (id := 7) 8 (by kernel_rfl) (by kernel_rfl) ?_ | refine CT.region ?_ | refine CT.seq1 ?_ | refine CT.block ?_ | refine CT.condT rfl ?_ | refine CT.condF rfl ?_ | refine CT.condD rfl (fun _ => ?_) (fun _ => ?_) | refine CT.condN rfl (fun _ => ?_) (fun _ => ?_) | refine CT.cond rfl (fun _ => ?_) (fun _ => ?_) | refine CT.skip ?_ | refine CT.exit ?_ | refine CT.ret ?_ | refine CT.goto ?_ | refine CT.label ?_ | refine LT.nil ?_ | refine HT.nil1 ?_ | (refine LT.consT ?_; (first | refine T.callRow Try.func11 rfl rfl rfl ((g_law5Of _ (by first | omega | (simp; omega) | simp))) (by decide) rfl ?_)) | (apply LT.cons1; (first | exact arm12_1); decide) | (apply HT.cons1; (first | exact arm12_1)) | (apply HT.guard1; rfl; rfl; rfl; (first | exact arm12_1)) | refine HT.skip1 rfl rfl rfl ?_ | refine HT.skip2 rfl rfl ?_ | refine HT.partD rfl rfl (fun _ => ?_) (fun _ => ?_) | refine HT.partN rfl rfl (fun _ => ?_) (fun _ => ?_) | (refine HT.part1 rfl rfl (fun h => ?_) (fun h => ?_); (fail_if_success exact absurd h (by decide)); rotate_left; (fail_if_success exact absurd h (by decide)); rotate_left))
      refine ⟨by first | exact .inl rfl | exact .inr rfl, _, (.cons (.tmp 4 (A := .val _) rfl (fun _ h => by cases h)) .nil), ?_, rfl⟩
      have : xs = ys := by
        rw [List.take_of_length_le (Nat.le_refl _), List.take_of_length_le (by omega)] at hc
        exact hc
      simp [this, retsV]
  · have hne : ¬ xs = ys := fun h => hl (by rw [h])
    repeat' (first | refine CT.seqR ?_ | refine CT.seqD (id := 7) 8 (by kernel_rfl) (by kernel_rfl) ?_ | refine CT.draw (id := 7) 8 (by kernel_rfl) (by kernel_rfl) ?_ | refine CT.region ?_ | refine CT.seq1 ?_ | refine CT.block ?_ | refine CT.condT rfl ?_ | refine CT.condF rfl ?_ | refine CT.condD rfl (fun _ => ?_) (fun _ => ?_) | refine CT.condN rfl (fun _ => ?_) (fun _ => ?_) | refine CT.cond rfl (fun _ => ?_) (fun _ => ?_) | refine CT.skip ?_ | refine CT.exit ?_ | refine CT.ret ?_ | refine CT.goto ?_ | refine CT.label ?_ | refine LT.nil ?_ | refine HT.nil1 ?_ | (refine LT.consT ?_; (first | refine T.callRow Try.func11 rfl rfl rfl ((g_law5Of _ (by first | omega | (simp; omega) | simp))) (by decide) rfl ?_)) | (apply LT.cons1; (first | exact arm12_1); decide) | (apply HT.cons1; (first | exact arm12_1)) | (apply HT.guard1; rfl; rfl; rfl; (first | exact arm12_1)) | refine HT.skip1 rfl rfl rfl ?_ | refine HT.skip2 rfl rfl ?_ | refine HT.partD rfl rfl (fun _ => ?_) (fun _ => ?_) | refine HT.partN rfl rfl (fun _ => ?_) (fun _ => ?_) | (refine HT.part1 rfl rfl (fun h => ?_) (fun h => ?_); (fail_if_success exact absurd h (by decide)); rotate_left; (fail_if_success exact absurd h (by decide)); rotate_left))
    refine ⟨by first | exact .inl rfl | exact .inr rfl, _, (.cons (.tmp 4 (A := .val _) rfl (fun _ h => by cases h)) .nil), ?_, rfl⟩
    simp [hne, retsV]
theorem arm15_1 {p : Prop} (h : p := by first | exact OpH.assign (v := .val _) rfl | exact OpH.assign (v := .sl _ _) rfl | exact OpH.assign (v := .row _ _ _ _) rfl | exact OpH.assign (v := .full _ _) rfl | exact OpH.assign (v := .ptr _ _) rfl | exact OpH.assign (v := .cptr _) rfl | exact OpH.assign (v := .cloB _ _) rfl | exact OpH.assign (v := .clo _ _) rfl | exact OpH.assign (v := .pr _) rfl | exact OpH.assign (v := .arow _) rfl | exact OpH.assign (v := .aptr _ _ _ _) rfl | exact OpH.assign (v := .asub _ _ _ _) rfl | exact OpH.assign (v := .tup _) rfl | exact OpH.move (v := .val _) rfl | exact OpH.move (v := .sl _ _) rfl | exact OpH.move (v := .row _ _ _ _) rfl | exact OpH.move (v := .full _ _) rfl | exact OpH.move (v := .ptr _ _) rfl | exact OpH.move (v := .cptr _) rfl | exact OpH.move (v := .cloB _ _) rfl | exact OpH.move (v := .clo _ _) rfl | exact OpH.move (v := .pr _) rfl | exact OpH.move (v := .arow _) rfl | exact OpH.move (v := .aptr _ _ _ _) rfl | exact OpH.move (v := .asub _ _ _ _) rfl | exact OpH.move (v := .tup _) rfl | exact OpH.lenM (t := 22) rfl (.sl _ _) (by kernel_rfl) | exact OpH.lenM (t := 22) rfl (.row _ _ _ _) (by kernel_rfl) | exact OpH.lenM (t := 22) rfl (.full _ _) (by kernel_rfl) | exact OpH.len (t := 22) rfl slP (by kernel_rfl) | exact OpH.lenNil (t := 22) rfl (by kernel_rfl) | exact OpH.bin rfl rfl (pb_lss_t (by omega)) | exact OpH.bin rfl rfl (pb_lss_f (by omega)) | exact OpH.bin rfl rfl (pb_lss) | exact OpH.indexS (t := 22) (k := 6) rfl slP rfl rfl (by kernel_rfl) (map_at bd) rfl | exact loadC6 (t := 45) rfl (by kernel_rfl) | exact loadB6 (t := 45) rfl rfl (by kernel_rfl) rfl | exact OpH.subHi (t := 22) (k := 6) rfl slP (by kernel_rfl) rfl rfl bd | exact OpH.fieldC (s := 45) (f := 1) (off := 4) rfl (by kernel_rfl) rfl | exact OpH.fieldB (s := 45) (f := 1) (off := 4) rfl (by kernel_rfl) rfl | exact OpH.loadC1 (t := 3) rfl (by kernel_rfl) rfl | exact OpH.loadB1 (t := 3) rfl rfl (by kernel_rfl) rfl | exact OpH.bin rfl rfl (pb_eql_t (by first | omega | assumption)) | exact OpH.bin rfl rfl (pb_eql_f (by first | omega | assumption)) | exact OpH.bin rfl rfl (pb_eql) | exact OpH.fieldC (s := 45) (f := 0) (off := 0) rfl (by kernel_rfl) rfl | exact OpH.fieldB (s := 45) (f := 0) (off := 0) rfl (by kernel_rfl) rfl | exact loadC4 (t := 43) rfl (by kernel_rfl) | exact loadB4 (t := 43) rfl rfl (by kernel_rfl) rfl | exact OpH.callF Try.func34 rfl rfl rfl (g_wMeet _ _ _ _ _ _ _ _) rfl | exact OpH.pick (b := true) (v := .val _) rfl rfl | exact OpH.pick (b := false) (v := .val _) rfl rfl | exact OpH.pick (b := true) (v := .sl _ _) rfl rfl | exact OpH.pick (b := false) (v := .sl _ _) rfl rfl | exact OpH.pick (b := true) (v := .row _ _ _ _) rfl rfl | exact OpH.pick (b := false) (v := .row _ _ _ _) rfl rfl | exact OpH.pick (b := true) (v := .full _ _) rfl rfl | exact OpH.pick (b := false) (v := .full _ _) rfl rfl | exact OpH.pickV rfl rfl rfl | exact OpH.bin rfl rfl (pb_inc (by omega)) | exact OpH.bin rfl rfl (pb_addN rfl (by omega)) | exact OpH.bin rfl rfl (pb_add (by omega)) | exact OpH.bin rfl rfl (pb_addw)) : p := h
set_option maxRecDepth 100000 in
set_option maxHeartbeats 2000000 in
theorem g_mSimple (xs : List Ent) (b : Bool) (hb : b = true ↔ SimpleR xs) (hok : ∀ x ∈ xs, x.w.ok) (hl : xs.length ≤ 65536) : Good Try.prog 15 [.sl 6 (xs.map encE)] (.val (.bool b)) := by
  refine Good.of_body (T := [(0, _)]) Try.func15 rfl rfl rfl ?_
  intro K0 w0 hno
  repeat' (first | refine CT.seqR ?_ | refine CT.region ?_ | refine CT.seq1 ?_ | refine CT.block ?_ | refine CT.condT rfl ?_ | refine CT.condF rfl ?_ | refine CT.condD rfl (fun _ => ?_) (fun _ => ?_) | refine CT.condN rfl (fun _ => ?_) (fun _ => ?_) | refine CT.cond rfl (fun _ => ?_) (fun _ => ?_) | refine CT.skip ?_ | refine CT.exit ?_ | refine CT.ret ?_ | refine CT.goto ?_ | refine CT.label ?_ | refine LT.nil ?_ | refine HT.nil1 ?_ | (refine LT.consT ?_; (first | refine T.alloc (e := 45) (z := .agg #[.int .u64 0, .int .u64 0, .int .u64 0, .int .u64 0, .int .i64 0, .int .i64 0]) (cs := [.val (.int .u64 0), .val (.int .u64 0), .val (.int .u64 0), .val (.int .u64 0), .val (.int .i64 0), .val (.int .i64 0)]) (by kernel_rfl) rfl (by decide) rfl rfl ?_ | refine T.store (t := 45) rfl rfl rfl (by kernel_rfl) (by kernel_rfl) (Nat.le_of_ble_eq_true (by kernel_rfl)) rfl rfl ?_)) | (apply LT.cons1; (first | exact arm15_1); decide) | (apply LT.guard1; rfl; rfl; rfl; decide; (first | exact arm15_1); decide) | refine LT.skip1 rfl rfl rfl (by decide) (by decide) ?_ | refine LT.skip2 rfl rfl (by decide) (by decide) ?_ | refine LT.partD rfl rfl (fun _ => ?_) (fun _ => ?_) | refine LT.partN rfl rfl (fun _ => ?_) (fun _ => ?_) | (refine LT.part1 rfl rfl (fun h => ?_) (fun h => ?_); (fail_if_success exact absurd h (by decide)); rotate_left; (fail_if_success exact absurd h (by decide)); rotate_left))
  refine CT.loopX (fun k : Nat => (⟨[(0, .sl 6 (xs.map encE)), (7, .sl 6 (xs.map encE)), (8, .val (.int .i64 xs.length)), (9, .val (.int .i64 k))], [], []⟩ : St))
    (fun k => k ≤ xs.length ∧ ClearS xs k 0) (fun k => xs.length - k) 0 ?_ ⟨by omega, ClearS.start⟩ ?_
  · (apply Sub.mk; (focus (repeat (first | exact .nil | refine .other (.keep rfl rfl) ?_ | refine .other (.aref rfl rfl rfl) ?_ | refine .other (.val rfl (by first | rfl | (congr 1; first | omega | assumption | (symm; assumption)) | (simp; omega))) ?_ | refine .other .dead ?_ | refine .other (.sl rfl (.row _ _ _ _) rfl) ?_ | refine .other (.sl rfl (.sl _ _) rfl) ?_ | refine .other (.sl rfl (.full _ _) rfl) ?_ | refine .other (.slNil rfl rfl) ?_ | refine .rowNil rfl rfl rfl ?_ | refine .row rfl (by first | rfl | assumption | (rw [← List.map_append]; first | done | rfl | congr 1)) rfl rfl ?_))); (focus (repeat (first | exact .nil | refine KeepB.same rfl rfl rfl ?_ | refine KeepB.sameA rfl rfl rfl ?_))); (focus (repeat (first | exact .nil | refine KeepA.cons rfl (by first | rfl | assumption | exact List.map_set | exact List.map_set.symm | (rw [← List.map_append]; first | done | rfl | congr 1) | (congr 1; first | omega | assumption)) ?_))))
  rintro k ⟨hk, hc⟩
  by_cases hlt : k < xs.length
  · have hkl : (xs.take k).length = k := by rw [List.length_take]; omega
    repeat' (first | refine CT.seqR ?_ | refine CT.region ?_ | refine CT.seq1 ?_ | refine CT.block ?_ | refine CT.condT rfl ?_ | refine CT.condF rfl ?_ | refine CT.condD rfl (fun _ => ?_) (fun _ => ?_) | refine CT.condN rfl (fun _ => ?_) (fun _ => ?_) | refine CT.cond rfl (fun _ => ?_) (fun _ => ?_) | refine CT.skip ?_ | refine CT.exit ?_ | refine CT.ret ?_ | refine CT.goto ?_ | refine CT.label ?_ | refine LT.nil ?_ | refine HT.nil1 ?_ | (refine LT.consT ?_; (first | refine T.alloc (e := 45) (z := .agg #[.int .u64 0, .int .u64 0, .int .u64 0, .int .u64 0, .int .i64 0, .int .i64 0]) (cs := [.val (.int .u64 0), .val (.int .u64 0), .val (.int .u64 0), .val (.int .u64 0), .val (.int .i64 0), .val (.int .i64 0)]) (by kernel_rfl) rfl (by decide) rfl rfl ?_ | refine T.store (t := 45) rfl rfl rfl (by kernel_rfl) (by kernel_rfl) (Nat.le_of_ble_eq_true (by kernel_rfl)) rfl rfl ?_)) | (apply LT.cons1; (first | exact arm15_1); decide) | (apply LT.guard1; rfl; rfl; rfl; decide; (first | exact arm15_1); decide) | refine LT.skip1 rfl rfl rfl (by decide) (by decide) ?_ | refine LT.skip2 rfl rfl (by decide) (by decide) ?_ | refine LT.partD rfl rfl (fun _ => ?_) (fun _ => ?_) | refine LT.partN rfl rfl (fun _ => ?_) (fun _ => ?_) | (refine LT.part1 rfl rfl (fun h => ?_) (fun h => ?_); (fail_if_success exact absurd h (by decide)); rotate_left; (fail_if_success exact absurd h (by decide)); rotate_left))
    refine CT.loopX (fun j : Nat => (⟨[(0, .sl 6 (xs.map encE)), (4, .ptr 4 0), (7, .sl 6 (xs.map encE)), (8, .val (.int .i64 xs.length)), (9, .val (.int .i64 k)), (16, .sl 6 ((xs.take k).map encE)), (17, .val (.int .i64 (xs.take k).length)), (18, .val (.int .i64 j))], [(4, (encE xs[k]).map AV.val)], []⟩ : St))
      (fun j => j ≤ k ∧ ClearS xs k j) (fun j => k - j) 0 ?_ ⟨by omega, hc⟩ ?_
    · (apply Sub.mk; (focus (repeat (first | exact .nil | refine .other (.keep rfl rfl) ?_ | refine .other (.aref rfl rfl rfl) ?_ | refine .other (.val rfl (by first | rfl | (congr 1; first | omega | assumption | (symm; assumption)) | (simp; omega))) ?_ | refine .other .dead ?_ | refine .other (.sl rfl (.row _ _ _ _) rfl) ?_ | refine .other (.sl rfl (.sl _ _) rfl) ?_ | refine .other (.sl rfl (.full _ _) rfl) ?_ | refine .other (.slNil rfl rfl) ?_ | refine .rowNil rfl rfl rfl ?_ | refine .row rfl (by first | rfl | assumption | (rw [← List.map_append]; first | done | rfl | congr 1)) rfl rfl ?_))); (focus (repeat (first | exact .nil | refine KeepB.same rfl rfl rfl ?_ | refine KeepB.sameA rfl rfl rfl ?_))); (focus (repeat (first | exact .nil | refine KeepA.cons rfl (by first | rfl | assumption | exact List.map_set | exact List.map_set.symm | (rw [← List.map_append]; first | done | rfl | congr 1) | (congr 1; first | omega | assumption)) ?_))))
    clear hc
    rintro j ⟨hj, hc⟩
    by_cases hjk : j < k
    · have hjl : j < xs.length := by omega
      have hjt : j < (xs.take k).length := by omega
      have hg : (xs.take k)[j] = xs[j] := List.getElem_take
      have hM : Good Try.prog 34 [.val (.agg #[.int .u64 (xs[k].w).v.x, .int .u64 (xs[k].w).v.y, .int .u64 (xs[k].w).m.x, .int .u64 (xs[k].w).m.y]), .val (.agg #[.int .u64 ((xs.take k)[j].w).v.x, .int .u64 ((xs.take k)[j].w).v.y, .int .u64 ((xs.take k)[j].w).m.x, .int .u64 ((xs.take k)[j].w).m.y])] (.val (.bool (rMeet xs[k].w xs[j].w))) := by
        rw [hg, ← meet_ref (hok _ (List.getElem_mem hlt)) (hok _ (List.getElem_mem hjl))]
        exact g_wMeet _ _ _ _ _ _ _ _
      obtain ⟨m, hm⟩ : ∃ m, rMeet xs[k].w xs[j].w = m := ⟨_, rfl⟩
      rw [hm] at hM
      by_cases hle : xs[k].len = xs[j].len
      · have hle' : xs[k].len = (xs.take k)[j].len := by rw [hg]; exact hle
        cases m with
        | true =>
          repeat' (first | refine CT.seqR ?_ | refine CT.region ?_ | refine CT.seq1 ?_ | refine CT.block ?_ | refine CT.condT rfl ?_ | refine CT.condF rfl ?_ | refine CT.condD rfl (fun _ => ?_) (fun _ => ?_) | refine CT.condN rfl (fun _ => ?_) (fun _ => ?_) | refine CT.cond rfl (fun _ => ?_) (fun _ => ?_) | refine CT.skip ?_ | refine CT.exit ?_ | refine CT.ret ?_ | refine CT.goto ?_ | refine CT.label ?_ | refine LT.nil ?_ | refine HT.nil1 ?_ | (refine LT.consT ?_; (first | refine T.alloc (e := 45) (z := .agg #[.int .u64 0, .int .u64 0, .int .u64 0, .int .u64 0, .int .i64 0, .int .i64 0]) (cs := [.val (.int .u64 0), .val (.int .u64 0), .val (.int .u64 0), .val (.int .u64 0), .val (.int .i64 0), .val (.int .i64 0)]) (by kernel_rfl) rfl (by decide) rfl rfl ?_ | refine T.store (t := 45) rfl rfl rfl (by kernel_rfl) (by kernel_rfl) (Nat.le_of_ble_eq_true (by kernel_rfl)) rfl rfl ?_)) | (apply LT.cons1; (first | exact OpH.callF Try.func34 rfl rfl rfl hM rfl | exact arm15_1); decide) | (apply LT.guard1; rfl; rfl; rfl; decide; (first | exact OpH.callF Try.func34 rfl rfl rfl hM rfl | exact arm15_1); decide) | refine LT.skip1 rfl rfl rfl (by decide) (by decide) ?_ | refine LT.skip2 rfl rfl (by decide) (by decide) ?_ | refine LT.partD rfl rfl (fun _ => ?_) (fun _ => ?_) | refine LT.partN rfl rfl (fun _ => ?_) (fun _ => ?_) | (refine LT.part1 rfl rfl (fun h => ?_) (fun h => ?_); (fail_if_success exact absurd h (by decide)); rotate_left; (fail_if_success exact absurd h (by decide)); rotate_left))
          refine ⟨by first | exact .inl rfl | exact .inr rfl, _, (.cons (.tmp 2 (A := .val _) rfl (fun _ h => by cases h)) .nil), ?_, rfl⟩
          have := SimpleR.not hlt hjk ⟨hle, hm⟩
          cases b with
          | true => exact absurd (hb.1 rfl) this
          | false => rfl
        | false =>
          repeat' (first | refine CT.seqR ?_ | refine CT.region ?_ | refine CT.seq1 ?_ | refine CT.block ?_ | refine CT.condT rfl ?_ | refine CT.condF rfl ?_ | refine CT.condD rfl (fun _ => ?_) (fun _ => ?_) | refine CT.condN rfl (fun _ => ?_) (fun _ => ?_) | refine CT.cond rfl (fun _ => ?_) (fun _ => ?_) | refine CT.skip ?_ | refine CT.exit ?_ | refine CT.ret ?_ | refine CT.goto ?_ | refine CT.label ?_ | refine LT.nil ?_ | refine HT.nil1 ?_ | (refine LT.consT ?_; (first | refine T.alloc (e := 45) (z := .agg #[.int .u64 0, .int .u64 0, .int .u64 0, .int .u64 0, .int .i64 0, .int .i64 0]) (cs := [.val (.int .u64 0), .val (.int .u64 0), .val (.int .u64 0), .val (.int .u64 0), .val (.int .i64 0), .val (.int .i64 0)]) (by kernel_rfl) rfl (by decide) rfl rfl ?_ | refine T.store (t := 45) rfl rfl rfl (by kernel_rfl) (by kernel_rfl) (Nat.le_of_ble_eq_true (by kernel_rfl)) rfl rfl ?_)) | (apply LT.cons1; (first | exact OpH.callF Try.func34 rfl rfl rfl hM rfl | exact arm15_1); decide) | (apply LT.guard1; rfl; rfl; rfl; decide; (first | exact OpH.callF Try.func34 rfl rfl rfl hM rfl | exact arm15_1); decide) | refine LT.skip1 rfl rfl rfl (by decide) (by decide) ?_ | refine LT.skip2 rfl rfl (by decide) (by decide) ?_ | refine LT.partD rfl rfl (fun _ => ?_) (fun _ => ?_) | refine LT.partN rfl rfl (fun _ => ?_) (fun _ => ?_) | (refine LT.part1 rfl rfl (fun h => ?_) (fun h => ?_); (fail_if_success exact absurd h (by decide)); rotate_left; (fail_if_success exact absurd h (by decide)); rotate_left))
          refine ⟨j + 1, ⟨by omega, hc.step hlt hjl (fun h => by rw [hm] at h; cases h.2)⟩, by omega, ?_⟩
          (apply Sub.mk; (focus (repeat (first | exact .nil | refine .other (.keep rfl rfl) ?_ | refine .other (.aref rfl rfl rfl) ?_ | refine .other (.val rfl (by first | rfl | (congr 1; first | omega | assumption | (symm; assumption)) | (simp; omega))) ?_ | refine .other .dead ?_ | refine .other (.sl rfl (.row _ _ _ _) rfl) ?_ | refine .other (.sl rfl (.sl _ _) rfl) ?_ | refine .other (.sl rfl (.full _ _) rfl) ?_ | refine .other (.slNil rfl rfl) ?_ | refine .rowNil rfl rfl rfl ?_ | refine .row rfl (by first | rfl | assumption | (rw [← List.map_append]; first | done | rfl | congr 1)) rfl rfl ?_))); (focus (repeat (first | exact .nil | refine KeepB.same rfl rfl rfl ?_ | refine KeepB.sameA rfl rfl rfl ?_))); (focus (repeat (first | exact .nil | refine KeepA.cons rfl (by first | rfl | assumption | exact List.map_set | exact List.map_set.symm | (rw [← List.map_append]; first | done | rfl | congr 1) | (congr 1; first | omega | assumption)) ?_))))
      · have hle' : ¬ xs[k].len = (xs.take k)[j].len := by rw [hg]; exact hle
        repeat' (first | refine CT.seqR ?_ | refine CT.region ?_ | refine CT.seq1 ?_ | refine CT.block ?_ | refine CT.condT rfl ?_ | refine CT.condF rfl ?_ | refine CT.condD rfl (fun _ => ?_) (fun _ => ?_) | refine CT.condN rfl (fun _ => ?_) (fun _ => ?_) | refine CT.cond rfl (fun _ => ?_) (fun _ => ?_) | refine CT.skip ?_ | refine CT.exit ?_ | refine CT.ret ?_ | refine CT.goto ?_ | refine CT.label ?_ | refine LT.nil ?_ | refine HT.nil1 ?_ | (refine LT.consT ?_; (first | refine T.alloc (e := 45) (z := .agg #[.int .u64 0, .int .u64 0, .int .u64 0, .int .u64 0, .int .i64 0, .int .i64 0]) (cs := [.val (.int .u64 0), .val (.int .u64 0), .val (.int .u64 0), .val (.int .u64 0), .val (.int .i64 0), .val (.int .i64 0)]) (by kernel_rfl) rfl (by decide) rfl rfl ?_ | refine T.store (t := 45) rfl rfl rfl (by kernel_rfl) (by kernel_rfl) (Nat.le_of_ble_eq_true (by kernel_rfl)) rfl rfl ?_)) | (apply LT.cons1; (first | exact arm15_1); decide) | (apply LT.guard1; rfl; rfl; rfl; decide; (first | exact arm15_1); decide) | refine LT.skip1 rfl rfl rfl (by decide) (by decide) ?_ | refine LT.skip2 rfl rfl (by decide) (by decide) ?_ | refine LT.partD rfl rfl (fun _ => ?_) (fun _ => ?_) | refine LT.partN rfl rfl (fun _ => ?_) (fun _ => ?_) | (refine LT.part1 rfl rfl (fun h => ?_) (fun h => ?_); (fail_if_success exact absurd h (by decide)); rotate_left; (fail_if_success exact absurd h (by decide)); rotate_left))
        refine ⟨j + 1, ⟨by omega, hc.step hlt hjl (fun h => hle h.1)⟩, by omega, ?_⟩
        (apply Sub.mk; (focus (repeat (first | exact .nil | refine .other (.keep rfl rfl) ?_ | refine .other (.aref rfl rfl rfl) ?_ | refine .other (.val rfl (by first | rfl | (congr 1; first | omega | assumption | (symm; assumption)) | (simp; omega))) ?_ | refine .other .dead ?_ | refine .other (.sl rfl (.row _ _ _ _) rfl) ?_ | refine .other (.sl rfl (.sl _ _) rfl) ?_ | refine .other (.sl rfl (.full _ _) rfl) ?_ | refine .other (.slNil rfl rfl) ?_ | refine .rowNil rfl rfl rfl ?_ | refine .row rfl (by first | rfl | assumption | (rw [← List.map_append]; first | done | rfl | congr 1)) rfl rfl ?_))); (focus (repeat (first | exact .nil | refine KeepB.same rfl rfl rfl ?_ | refine KeepB.sameA rfl rfl rfl ?_))); (focus (repeat (first | exact .nil | refine KeepA.cons rfl (by first | rfl | assumption | exact List.map_set | exact List.map_set.symm | (rw [← List.map_append]; first | done | rfl | congr 1) | (congr 1; first | omega | assumption)) ?_))))
    · obtain rfl : j = k := by omega
      repeat' (first | refine CT.seqR ?_ | refine CT.region ?_ | refine CT.seq1 ?_ | refine CT.block ?_ | refine CT.condT rfl ?_ | refine CT.condF rfl ?_ | refine CT.condD rfl (fun _ => ?_) (fun _ => ?_) | refine CT.condN rfl (fun _ => ?_) (fun _ => ?_) | refine CT.cond rfl (fun _ => ?_) (fun _ => ?_) | refine CT.skip ?_ | refine CT.exit ?_ | refine CT.ret ?_ | refine CT.goto ?_ | refine CT.label ?_ | refine LT.nil ?_ | refine HT.nil1 ?_ | (refine LT.consT ?_; (first | refine T.alloc (e := 45) (z := .agg #[.int .u64 0, .int .u64 0, .int .u64 0, .int .u64 0, .int .i64 0, .int .i64 0]) (cs := [.val (.int .u64 0), .val (.int .u64 0), .val (.int .u64 0), .val (.int .u64 0), .val (.int .i64 0), .val (.int .i64 0)]) (by kernel_rfl) rfl (by decide) rfl rfl ?_ | refine T.store (t := 45) rfl rfl rfl (by kernel_rfl) (by kernel_rfl) (Nat.le_of_ble_eq_true (by kernel_rfl)) rfl rfl ?_)) | (apply LT.cons1; (first | exact arm15_1); decide) | (apply LT.guard1; rfl; rfl; rfl; decide; (first | exact arm15_1); decide) | refine LT.skip1 rfl rfl rfl (by decide) (by decide) ?_ | refine LT.skip2 rfl rfl (by decide) (by decide) ?_ | refine LT.partD rfl rfl (fun _ => ?_) (fun _ => ?_) | refine LT.partN rfl rfl (fun _ => ?_) (fun _ => ?_) | (refine LT.part1 rfl rfl (fun h => ?_) (fun h => ?_); (fail_if_success exact absurd h (by decide)); rotate_left; (fail_if_success exact absurd h (by decide)); rotate_left))
      refine ⟨j + 1, ⟨by omega, hc.next⟩, by omega, ?_⟩
      (apply Sub.mk; (focus (repeat (first | exact .nil | refine .other (.keep rfl rfl) ?_ | refine .other (.aref rfl rfl rfl) ?_ | refine .other (.val rfl (by first | rfl | (congr 1; first | omega | assumption | (symm; assumption)) | (simp; omega))) ?_ | refine .other .dead ?_ | refine .other (.sl rfl (.row _ _ _ _) rfl) ?_ | refine .other (.sl rfl (.sl _ _) rfl) ?_ | refine .other (.sl rfl (.full _ _) rfl) ?_ | refine .other (.slNil rfl rfl) ?_ | refine .rowNil rfl rfl rfl ?_ | refine .row rfl (by first | rfl | assumption | (rw [← List.map_append]; first | done | rfl | congr 1)) rfl rfl ?_))); (focus (repeat (first | exact .nil | refine KeepB.same rfl rfl rfl ?_ | refine KeepB.sameA rfl rfl rfl ?_))); (focus (repeat (first | exact .nil | refine KeepA.cons rfl (by first | rfl | assumption | exact List.map_set | exact List.map_set.symm | (rw [← List.map_append]; first | done | rfl | congr 1) | (congr 1; first | omega | assumption)) ?_))))
  · obtain rfl : k = xs.length := by omega
    repeat' (first | refine CT.seqR ?_ | refine CT.region ?_ | refine CT.seq1 ?_ | refine CT.block ?_ | refine CT.condT rfl ?_ | refine CT.condF rfl ?_ | refine CT.condD rfl (fun _ => ?_) (fun _ => ?_) | refine CT.condN rfl (fun _ => ?_) (fun _ => ?_) | refine CT.cond rfl (fun _ => ?_) (fun _ => ?_) | refine CT.skip ?_ | refine CT.exit ?_ | refine CT.ret ?_ | refine CT.goto ?_ | refine CT.label ?_ | refine LT.nil ?_ | refine HT.nil1 ?_ | (refine LT.consT ?_; (first | refine T.alloc (e := 45) (z := .agg #[.int .u64 0, .int .u64 0, .int .u64 0, .int .u64 0, .int .i64 0, .int .i64 0]) (cs := [.val (.int .u64 0), .val (.int .u64 0), .val (.int .u64 0), .val (.int .u64 0), .val (.int .i64 0), .val (.int .i64 0)]) (by kernel_rfl) rfl (by decide) rfl rfl ?_ | refine T.store (t := 45) rfl rfl rfl (by kernel_rfl) (by kernel_rfl) (Nat.le_of_ble_eq_true (by kernel_rfl)) rfl rfl ?_)) | (apply LT.cons1; (first | exact arm15_1); decide) | (apply LT.guard1; rfl; rfl; rfl; decide; (first | exact arm15_1); decide) | refine LT.skip1 rfl rfl rfl (by decide) (by decide) ?_ | refine LT.skip2 rfl rfl (by decide) (by decide) ?_ | refine LT.partD rfl rfl (fun _ => ?_) (fun _ => ?_) | refine LT.partN rfl rfl (fun _ => ?_) (fun _ => ?_) | (refine LT.part1 rfl rfl (fun h => ?_) (fun h => ?_); (fail_if_success exact absurd h (by decide)); rotate_left; (fail_if_success exact absurd h (by decide)); rotate_left))
    refine ⟨by first | exact .inl rfl | exact .inr rfl, _, (.cons (.tmp 2 (A := .val _) rfl (fun _ h => by cases h)) .nil), ?_, rfl⟩
    rw [hb.2 hc.simple]; rfl
theorem arm21_1 {p : Prop} (h : p := by first | exact OpH.assign (v := .val _) rfl | exact OpH.assign (v := .sl _ _) rfl | exact OpH.assign (v := .row _ _ _ _) rfl | exact OpH.assign (v := .full _ _) rfl | exact OpH.assign (v := .ptr _ _) rfl | exact OpH.assign (v := .cptr _) rfl | exact OpH.assign (v := .cloB _ _) rfl | exact OpH.assign (v := .clo _ _) rfl | exact OpH.assign (v := .pr _) rfl | exact OpH.assign (v := .arow _) rfl | exact OpH.assign (v := .aptr _ _ _ _) rfl | exact OpH.assign (v := .asub _ _ _ _) rfl | exact OpH.assign (v := .tup _) rfl | exact OpH.move (v := .val _) rfl | exact OpH.move (v := .sl _ _) rfl | exact OpH.move (v := .row _ _ _ _) rfl | exact OpH.move (v := .full _ _) rfl | exact OpH.move (v := .ptr _ _) rfl | exact OpH.move (v := .cptr _) rfl | exact OpH.move (v := .cloB _ _) rfl | exact OpH.move (v := .clo _ _) rfl | exact OpH.move (v := .pr _) rfl | exact OpH.move (v := .arow _) rfl | exact OpH.move (v := .aptr _ _ _ _) rfl | exact OpH.move (v := .asub _ _ _ _) rfl | exact OpH.move (v := .tup _) rfl | exact OpH.bin rfl rfl (pb_geq_t (by omega)) | exact OpH.bin rfl rfl (pb_geq_f (by omega)) | exact OpH.bin rfl rfl (pb_geq) | exact OpH.bin rfl rfl (pb_leq_t (by omega)) | exact OpH.bin rfl rfl (pb_leq_f (by omega)) | exact OpH.bin rfl rfl (pb_leq) | exact OpH.pick (b := true) (v := .val _) rfl rfl | exact OpH.pick (b := false) (v := .val _) rfl rfl | exact OpH.pick (b := true) (v := .sl _ _) rfl rfl | exact OpH.pick (b := false) (v := .sl _ _) rfl rfl | exact OpH.pick (b := true) (v := .row _ _ _ _) rfl rfl | exact OpH.pick (b := false) (v := .row _ _ _ _) rfl rfl | exact OpH.pick (b := true) (v := .full _ _) rfl rfl | exact OpH.pick (b := false) (v := .full _ _) rfl rfl | exact OpH.pickV rfl rfl rfl) : p := h
set_option maxRecDepth 100000 in
set_option maxHeartbeats 2000000 in
theorem g_Mode (n : Int) : Good Try.prog 21 [.val (.int .i64 n)] (.val (.bool (decide (0 ≤ n ∧ n ≤ 2)))) := by
  refine Good.of_body (T := [(0, _)]) Try.func21 rfl rfl rfl ?_
  intro K0 w0 hno
  by_cases h1 : 0 ≤ n
  · by_cases h2 : n ≤ 2
    · repeat' (first | refine CT.seqR ?_ | refine CT.region ?_ | refine CT.seq1 ?_ | refine CT.block ?_ | refine CT.condT rfl ?_ | refine CT.condF rfl ?_ | refine CT.condD rfl (fun _ => ?_) (fun _ => ?_) | refine CT.condN rfl (fun _ => ?_) (fun _ => ?_) | refine CT.cond rfl (fun _ => ?_) (fun _ => ?_) | refine CT.skip ?_ | refine CT.exit ?_ | refine CT.ret ?_ | refine CT.goto ?_ | refine CT.label ?_ | refine LT.nil ?_ | refine HT.nil1 ?_ | (apply LT.cons1; (first | exact arm21_1); decide) | (apply LT.guard1; rfl; rfl; rfl; decide; (first | exact arm21_1); decide) | refine LT.skip1 rfl rfl rfl (by decide) (by decide) ?_ | refine LT.skip2 rfl rfl (by decide) (by decide) ?_ | refine LT.partD rfl rfl (fun _ => ?_) (fun _ => ?_) | refine LT.partN rfl rfl (fun _ => ?_) (fun _ => ?_) | (refine LT.part1 rfl rfl (fun h => ?_) (fun h => ?_); (fail_if_success exact absurd h (by decide)); rotate_left; (fail_if_success exact absurd h (by decide)); rotate_left))
      refine ⟨by first | exact .inl rfl | exact .inr rfl, _, (.cons (.tmp 2 (A := .val _) rfl (fun _ h => by cases h)) .nil), ?_, rfl⟩
      simp [h1, h2, retsV]
    · repeat' (first | refine CT.seqR ?_ | refine CT.region ?_ | refine CT.seq1 ?_ | refine CT.block ?_ | refine CT.condT rfl ?_ | refine CT.condF rfl ?_ | refine CT.condD rfl (fun _ => ?_) (fun _ => ?_) | refine CT.condN rfl (fun _ => ?_) (fun _ => ?_) | refine CT.cond rfl (fun _ => ?_) (fun _ => ?_) | refine CT.skip ?_ | refine CT.exit ?_ | refine CT.ret ?_ | refine CT.goto ?_ | refine CT.label ?_ | refine LT.nil ?_ | refine HT.nil1 ?_ | (apply LT.cons1; (first | exact arm21_1); decide) | (apply LT.guard1; rfl; rfl; rfl; decide; (first | exact arm21_1); decide) | refine LT.skip1 rfl rfl rfl (by decide) (by decide) ?_ | refine LT.skip2 rfl rfl (by decide) (by decide) ?_ | refine LT.partD rfl rfl (fun _ => ?_) (fun _ => ?_) | refine LT.partN rfl rfl (fun _ => ?_) (fun _ => ?_) | (refine LT.part1 rfl rfl (fun h => ?_) (fun h => ?_); (fail_if_success exact absurd h (by decide)); rotate_left; (fail_if_success exact absurd h (by decide)); rotate_left))
      refine ⟨by first | exact .inl rfl | exact .inr rfl, _, (.cons (.tmp 2 (A := .val _) rfl (fun _ h => by cases h)) .nil), ?_, rfl⟩
      simp [h1, h2, retsV]
  · repeat' (first | refine CT.seqR ?_ | refine CT.region ?_ | refine CT.seq1 ?_ | refine CT.block ?_ | refine CT.condT rfl ?_ | refine CT.condF rfl ?_ | refine CT.condD rfl (fun _ => ?_) (fun _ => ?_) | refine CT.condN rfl (fun _ => ?_) (fun _ => ?_) | refine CT.cond rfl (fun _ => ?_) (fun _ => ?_) | refine CT.skip ?_ | refine CT.exit ?_ | refine CT.ret ?_ | refine CT.goto ?_ | refine CT.label ?_ | refine LT.nil ?_ | refine HT.nil1 ?_ | (apply LT.cons1; (first | exact arm21_1); decide) | (apply LT.guard1; rfl; rfl; rfl; decide; (first | exact arm21_1); decide) | refine LT.skip1 rfl rfl rfl (by decide) (by decide) ?_ | refine LT.skip2 rfl rfl (by decide) (by decide) ?_ | refine LT.partD rfl rfl (fun _ => ?_) (fun _ => ?_) | refine LT.partN rfl rfl (fun _ => ?_) (fun _ => ?_) | (refine LT.part1 rfl rfl (fun h => ?_) (fun h => ?_); (fail_if_success exact absurd h (by decide)); rotate_left; (fail_if_success exact absurd h (by decide)); rotate_left))
    refine ⟨by first | exact .inl rfl | exact .inr rfl, _, (.cons (.tmp 2 (A := .val _) rfl (fun _ h => by cases h)) .nil), ?_, rfl⟩
    simp [h1, retsV]
theorem un_xor64 {P : Program} {n : Int} (w : World) : (Op.unary .xor (.int .u64 n)).run P w = .ok (.int .u64 (bits .xor .u64 IntKind.u64.max n)) w := rfl
def aNot (a : A2) : A2 := ⟨bits .xor .u64 IntKind.u64.max a.x, bits .xor .u64 IntKind.u64.max a.y⟩
theorem arm50_1 {p : Prop} (h : p := by first | exact OpH.indexAC (t := 41) (k := 1) (n := 2) (j := 0) rfl rfl rfl (by kernel_rfl) (by decide) rfl | exact OpH.indexAB (t := 41) (k := 1) (n := 2) (j := 0) rfl rfl rfl (by kernel_rfl) (by decide) rfl | exact OpH.loadC1 (t := 39) rfl (by kernel_rfl) rfl | exact OpH.loadB1 (t := 39) rfl rfl (by kernel_rfl) rfl | exact OpH.un rfl un_not | exact OpH.un rfl (un_neg (by omega)) | exact OpH.indexAC (t := 41) (k := 1) (n := 2) (j := 1) rfl rfl rfl (by kernel_rfl) (by decide) rfl | exact OpH.indexAB (t := 41) (k := 1) (n := 2) (j := 1) rfl rfl rfl (by kernel_rfl) (by decide) rfl | exact build_41_0_1 rfl rfl | exact OpH.build (t := 41) (cells := #[_, _]) (by kernel_rfl) rfl) : p := h
set_option maxRecDepth 100000 in
set_option maxHeartbeats 2000000 in
theorem g_aNot (a : A2) : Good Try.prog 50 [.val (.agg #[.int .u64 a.x, .int .u64 a.y])] (.val (.agg #[.int .u64 (aNot a).x, .int .u64 (aNot a).y])) := by
  refine Good.of_body (T := [(0, _)]) Try.func50 rfl rfl rfl ?_
  intro K0 w0 hno
  repeat' (first | refine CT.seqR ?_ | refine CT.region ?_ | refine CT.seq1 ?_ | refine CT.block ?_ | refine CT.condT rfl ?_ | refine CT.condF rfl ?_ | refine CT.condD rfl (fun _ => ?_) (fun _ => ?_) | refine CT.condN rfl (fun _ => ?_) (fun _ => ?_) | refine CT.cond rfl (fun _ => ?_) (fun _ => ?_) | refine CT.skip ?_ | refine CT.exit ?_ | refine CT.ret ?_ | refine CT.goto ?_ | refine CT.label ?_ | refine LT.nil ?_ | refine HT.nil1 ?_ | (refine LT.consT ?_; (first | refine T.box (e := 41) (cs := [.val _, .val _]) rfl rfl (by decide) rfl rfl ?_ | refine T.alloc (e := 41) (z := .agg #[.int .u64 0, .int .u64 0]) (cs := [.val (.int .u64 0), .val (.int .u64 0)]) (by kernel_rfl) rfl (by decide) rfl rfl ?_ | refine T.store (t := 41) rfl rfl rfl (by kernel_rfl) (by kernel_rfl) (Nat.le_of_ble_eq_true (by kernel_rfl)) rfl rfl ?_)) | (apply LT.cons1; (first | exact OpH.un rfl un_xor64 | exact arm50_1); decide))
  refine ⟨by first | exact .inl rfl | exact .inr rfl, _, (.cons (.many 2 (vs := [_, _]) rfl rfl (by kernel_rfl) rfl rfl) .nil), ?_, rfl⟩
  rfl
theorem arm28_1 {p : Prop} (h : p := by first | exact OpH.assign (v := .val _) rfl | exact OpH.assign (v := .sl _ _) rfl | exact OpH.assign (v := .row _ _ _ _) rfl | exact OpH.assign (v := .full _ _) rfl | exact OpH.assign (v := .ptr _ _) rfl | exact OpH.assign (v := .cptr _) rfl | exact OpH.assign (v := .cloB _ _) rfl | exact OpH.assign (v := .clo _ _) rfl | exact OpH.assign (v := .pr _) rfl | exact OpH.assign (v := .arow _) rfl | exact OpH.assign (v := .aptr _ _ _ _) rfl | exact OpH.assign (v := .asub _ _ _ _) rfl | exact OpH.assign (v := .tup _) rfl | exact OpH.fieldC (s := 43) (f := 1) (off := 2) rfl (by kernel_rfl) rfl | exact OpH.fieldB (s := 43) (f := 1) (off := 2) rfl (by kernel_rfl) rfl | exact loadC2 (t := 41) rfl (by kernel_rfl) | exact loadB2 (t := 41) rfl rfl (by kernel_rfl) rfl | exact OpH.callF Try.func49 rfl rfl rfl ((g_Ones _ _ (by assumption) (by assumption))) rfl) : p := h
set_option maxRecDepth 100000 in
set_option maxHeartbeats 2000000 in
theorem g_wFree (x : W2) (hx : x.ok) : Good Try.prog 28 [.val (.agg #[.int .u64 x.v.x, .int .u64 x.v.y, .int .u64 x.m.x, .int .u64 x.m.y])] (.val (.int .i64 (aOnes (aNot x.m)))) := by
  have hU : U IntKind.u64.max := ⟨by decide, by decide⟩
  have h0 : U (aNot x.m).x := U_xor hU hx.2.1
  have h1 : U (aNot x.m).y := U_xor hU hx.2.2
  have gN := g_aNot x.m
  have gO := g_Ones (aNot x.m).x (aNot x.m).y h0 h1
  refine Good.of_body (T := [(0, _)]) Try.func28 rfl rfl rfl ?_
  intro K0 w0 hno
  repeat' (first | refine CT.seqR ?_ | refine CT.region ?_ | refine CT.seq1 ?_ | refine CT.block ?_ | refine CT.condT rfl ?_ | refine CT.condF rfl ?_ | refine CT.condD rfl (fun _ => ?_) (fun _ => ?_) | refine CT.condN rfl (fun _ => ?_) (fun _ => ?_) | refine CT.cond rfl (fun _ => ?_) (fun _ => ?_) | refine CT.skip ?_ | refine CT.exit ?_ | refine CT.ret ?_ | refine CT.goto ?_ | refine CT.label ?_ | refine LT.nil ?_ | refine HT.nil1 ?_ | (refine LT.consT ?_; (first | refine T.box (e := 43) (cs := [.val _, .val _, .val _, .val _]) rfl rfl (by decide) rfl rfl ?_)) | (apply LT.cons1; (first | exact OpH.callF Try.func50 rfl rfl rfl gN rfl | exact OpH.callF Try.func49 rfl rfl rfl gO rfl | exact arm28_1); decide))
  refine ⟨by first | exact .inl rfl | exact .inr rfl, _, (.cons (.tmp 2 (A := .val _) rfl (fun _ h => by cases h)) .nil), ?_, rfl⟩
  rfl
end Go.Proofs.Ytjibochjmmehcaa

/- merge.Build. -/
namespace Go.Proofs.Ytjibochjmmehcaa
set_option linter.unusedSimpArgs false
set_option linter.unusedVariables false
open Go Go.RowKit Go.Shelf
attribute [local irreducible] OpH OpT LT CT HT Good
theorem ents_take {rs : List Rte} {k : Nat} (h : k < rs.length) : (rs.take (k + 1)).map entR = (rs.take k).map entR ++ [entR rs[k]] := by
  rw [List.take_succ_eq_append_getElem h, List.map_append]; rfl
theorem g_eOfR (r : Rte) (h : Canon r.p) : Good Try.prog 38 [.val (.agg #[.int .u64 r.p.a.x, .int .u64 r.p.a.y, .int .i64 r.p.len]), .val (.int .i64 r.act)] (.val (.agg #[.int .u64 (entR r).w.v.x, .int .u64 (entR r).w.v.y, .int .u64 (entR r).w.m.x, .int .u64 (entR r).w.m.y, .int .i64 (entR r).len, .int .i64 (entR r).act])) := by
  have := g_eOfP r.p.a.x r.p.a.y r.p.len r.act
  rw [show pMake ⟨r.p.a.x, r.p.a.y⟩ r.p.len = r.p from cut_canon h] at this
  exact this
theorem arm18_1 {p : Prop} (h : p := by first | exact OpH.assign (v := .val _) rfl | exact OpH.assign (v := .sl _ _) rfl | exact OpH.assign (v := .row _ _ _ _) rfl | exact OpH.assign (v := .full _ _) rfl | exact OpH.assign (v := .ptr _ _) rfl | exact OpH.assign (v := .cptr _) rfl | exact OpH.assign (v := .cloB _ _) rfl | exact OpH.assign (v := .clo _ _) rfl | exact OpH.assign (v := .pr _) rfl | exact OpH.assign (v := .arow _) rfl | exact OpH.assign (v := .aptr _ _ _ _) rfl | exact OpH.assign (v := .asub _ _ _ _) rfl | exact OpH.assign (v := .tup _) rfl | exact OpH.move (v := .val _) rfl | exact OpH.move (v := .sl _ _) rfl | exact OpH.move (v := .row _ _ _ _) rfl | exact OpH.move (v := .full _ _) rfl | exact OpH.move (v := .ptr _ _) rfl | exact OpH.move (v := .cptr _) rfl | exact OpH.move (v := .cloB _ _) rfl | exact OpH.move (v := .clo _ _) rfl | exact OpH.move (v := .pr _) rfl | exact OpH.move (v := .arow _) rfl | exact OpH.move (v := .aptr _ _ _ _) rfl | exact OpH.move (v := .asub _ _ _ _) rfl | exact OpH.move (v := .tup _) rfl | exact OpH.un rfl un_not | exact OpH.un rfl (un_neg (by omega)) | exact OpH.bin rfl rfl (pb_neq_t (by first | omega | assumption)) | exact OpH.bin rfl rfl (pb_neq_f (by first | omega | assumption)) | exact OpH.bin rfl rfl (pb_neq) | exact OpH.lenM (t := 31) rfl (.sl _ _) (by kernel_rfl) | exact OpH.lenM (t := 31) rfl (.row _ _ _ _) (by kernel_rfl) | exact OpH.lenM (t := 31) rfl (.full _ _) (by kernel_rfl) | exact OpH.len (t := 31) rfl slP (by kernel_rfl) | exact OpH.lenNil (t := 31) rfl (by kernel_rfl) | exact OpH.bin rfl rfl (pb_lss_t (by omega)) | exact OpH.bin rfl rfl (pb_lss_f (by omega)) | exact OpH.bin rfl rfl (pb_lss) | exact OpH.indexS (t := 31) (k := 4) rfl slP rfl rfl (by kernel_rfl) (map_at bd) rfl | exact loadC4 (t := 56) rfl (by kernel_rfl) | exact loadB4 (t := 56) rfl rfl (by kernel_rfl) rfl | exact OpH.fieldC (s := 56) (f := 0) (off := 0) rfl (by kernel_rfl) rfl | exact OpH.fieldB (s := 56) (f := 0) (off := 0) rfl (by kernel_rfl) rfl | exact loadC3 (t := 53) rfl (by kernel_rfl) | exact loadB3 (t := 53) rfl rfl (by kernel_rfl) rfl | exact OpH.fieldC (s := 56) (f := 1) (off := 3) rfl (by kernel_rfl) rfl | exact OpH.fieldB (s := 56) (f := 1) (off := 3) rfl (by kernel_rfl) rfl | exact OpH.loadC1 (t := 3) rfl (by kernel_rfl) rfl | exact OpH.loadB1 (t := 3) rfl rfl (by kernel_rfl) rfl | exact OpH.callF Try.func38 rfl rfl rfl (g_eOf _ _ _ _) rfl | exact lit_22_1 rfl | exact OpH.bin rfl rfl (pb_inc (by omega)) | exact OpH.bin rfl rfl (pb_addN rfl (by omega)) | exact OpH.bin rfl rfl (pb_add (by omega)) | exact OpH.bin rfl rfl (pb_addw) | exact OpH.bin rfl rfl (pb_eql_t (by first | omega | assumption)) | exact OpH.bin rfl rfl (pb_eql_f (by first | omega | assumption)) | exact OpH.bin rfl rfl (pb_eql) | exact OpH.callFW Try.func13 rfl rfl rfl ((g_Merge _ (by assumption) (by first | omega | (simp; omega) | simp))) | exact OpH.callFW Try.func30 rfl rfl rfl ((g_eSort _ (by first | omega | (simp; omega) | simp)))) : p := h
set_option maxRecDepth 100000 in
set_option maxHeartbeats 2000000 in
theorem g_Build0 (rs : List Rte) (ht : TableR rs) (hl : rs.length ≤ 1000) : Good Try.prog 18 [.sl 4 (rs.map encR), .val (.int .i64 0)] (.row 35 45 6 ((buildE rs 0).map encE)) := by
  have gS := g_eSort (rs.map entR) (by rw [List.length_map]; omega)
  have gM := g_Mode 0
  rw [show decide ((0 : Int) ≤ 0 ∧ (0 : Int) ≤ 2) = true from rfl] at gM
  rw [show buildE rs 0 = sortE (rs.map entR) by unfold buildE; rw [if_pos rfl]]
  refine Good.of_body (T := [(0, _), (1, _)]) Try.func18 rfl rfl rfl ?_
  intro K0 w0 hno
  repeat' (first | refine CT.seqR ?_ | refine CT.region ?_ | refine CT.seq1 ?_ | refine CT.block ?_ | refine CT.condT rfl ?_ | refine CT.condF rfl ?_ | refine CT.condD rfl (fun _ => ?_) (fun _ => ?_) | refine CT.condN rfl (fun _ => ?_) (fun _ => ?_) | refine CT.cond rfl (fun _ => ?_) (fun _ => ?_) | refine CT.skip ?_ | refine CT.exit ?_ | refine CT.ret ?_ | refine CT.goto ?_ | refine CT.label ?_ | refine LT.nil ?_ | refine HT.nil1 ?_ | (refine LT.consT ?_; (first | refine T.alloc (e := 56) (z := .agg #[.int .u64 0, .int .u64 0, .int .i64 0, .int .i64 0]) (cs := [.val (.int .u64 0), .val (.int .u64 0), .val (.int .i64 0), .val (.int .i64 0)]) (by kernel_rfl) rfl (by decide) rfl rfl ?_ | refine T.store (t := 56) rfl rfl rfl (by kernel_rfl) (by kernel_rfl) (Nat.le_of_ble_eq_true (by kernel_rfl)) rfl rfl ?_ | refine T.appNil (t := 22) (e := 45) (k := 6) (bytes := 48) rfl rfl srP (by kernel_rfl) szP (by decide) rfl ?_ | refine T.app (t := 22) (e := 45) (k := 6) (bytes := 48) rfl rfl srP (by kernel_rfl) szP (by decide) rfl rfl ?_ | refine T.callRow Try.func13 rfl rfl rfl ((g_Merge _ (by assumption) (by first | omega | (simp; omega) | simp))) (by decide) rfl ?_ | refine T.callRow Try.func30 rfl rfl rfl ((g_eSort _ (by first | omega | (simp; omega) | simp))) (by decide) rfl ?_)) | (apply LT.cons1; (first | exact OpH.callF Try.func21 rfl rfl rfl gM rfl | exact arm18_1); decide))
  refine CT.loopX (fun k : Nat => (⟨[(1, .val (.int .i64 0)), (5, .row 5 45 6 (((rs.take k).map entR).map encE)), (15, .sl 4 (rs.map encR)), (16, .val (.int .i64 rs.length)), (17, .val (.int .i64 k))], [], []⟩ : St))
    (fun k => k ≤ rs.length) (fun k => rs.length - k) 0 ?_ (by omega) ?_
  · rw [List.take_zero, List.map_nil]
    (apply Sub.mk; (focus (repeat (first | exact .nil | refine .other (.keep rfl rfl) ?_ | refine .other (.aref rfl rfl rfl) ?_ | refine .other (.val rfl (by first | rfl | (congr 1; first | omega | assumption | (symm; assumption)) | (simp; omega))) ?_ | refine .other .dead ?_ | refine .other (.sl rfl (.row _ _ _ _) rfl) ?_ | refine .other (.sl rfl (.sl _ _) rfl) ?_ | refine .other (.sl rfl (.full _ _) rfl) ?_ | refine .other (.slNil rfl rfl) ?_ | refine .rowNil rfl rfl rfl ?_ | refine .row rfl (by first | rfl | assumption | (rw [← List.map_append]; first | done | rfl | congr 1)) rfl rfl ?_))); (focus (repeat (first | exact .nil | refine KeepB.same rfl rfl rfl ?_ | refine KeepB.sameA rfl rfl rfl ?_))); (focus (repeat (first | exact .nil | refine KeepA.cons rfl (by first | rfl | assumption | exact List.map_set | exact List.map_set.symm | (rw [← List.map_append]; first | done | rfl | congr 1) | (congr 1; first | omega | assumption)) ?_))))
  rintro k hk
  by_cases hlt : k < rs.length
  · have hkl : ((rs.take k).map entR).length = k := by rw [List.length_map, List.length_take]; omega
    have gO := g_eOfR rs[k] (ht.canon _ (List.getElem_mem hlt))
    obtain ⟨e, he⟩ : ∃ e, entR rs[k] = e := ⟨_, rfl⟩
    rw [he] at gO
    repeat' (first | refine CT.seqR ?_ | refine CT.region ?_ | refine CT.seq1 ?_ | refine CT.block ?_ | refine CT.condT rfl ?_ | refine CT.condF rfl ?_ | refine CT.condD rfl (fun _ => ?_) (fun _ => ?_) | refine CT.condN rfl (fun _ => ?_) (fun _ => ?_) | refine CT.cond rfl (fun _ => ?_) (fun _ => ?_) | refine CT.skip ?_ | refine CT.exit ?_ | refine CT.ret ?_ | refine CT.goto ?_ | refine CT.label ?_ | refine LT.nil ?_ | refine HT.nil1 ?_ | (refine LT.consT ?_; (first | refine T.alloc (e := 56) (z := .agg #[.int .u64 0, .int .u64 0, .int .i64 0, .int .i64 0]) (cs := [.val (.int .u64 0), .val (.int .u64 0), .val (.int .i64 0), .val (.int .i64 0)]) (by kernel_rfl) rfl (by decide) rfl rfl ?_ | refine T.store (t := 56) rfl rfl rfl (by kernel_rfl) (by kernel_rfl) (Nat.le_of_ble_eq_true (by kernel_rfl)) rfl rfl ?_ | refine T.appNil (t := 22) (e := 45) (k := 6) (bytes := 48) rfl rfl srP (by kernel_rfl) szP (by decide) rfl ?_ | refine T.app (t := 22) (e := 45) (k := 6) (bytes := 48) rfl rfl srP (by kernel_rfl) szP (by decide) rfl rfl ?_ | refine T.callRow Try.func13 rfl rfl rfl ((g_Merge _ (by assumption) (by first | omega | (simp; omega) | simp))) (by decide) rfl ?_ | refine T.callRow Try.func30 rfl rfl rfl ((g_eSort _ (by first | omega | (simp; omega) | simp))) (by decide) rfl ?_)) | (apply LT.cons1; (first | exact OpH.callF Try.func38 rfl rfl rfl gO rfl | exact arm18_1); decide))
    refine ⟨k + 1, by omega, by omega, ?_⟩
    rw [ents_take hlt, he]
    (apply Sub.mk; (focus (repeat (first | exact .nil | refine .other (.keep rfl rfl) ?_ | refine .other (.aref rfl rfl rfl) ?_ | refine .other (.val rfl (by first | rfl | (congr 1; first | omega | assumption | (symm; assumption)) | (simp; omega))) ?_ | refine .other .dead ?_ | refine .other (.sl rfl (.row _ _ _ _) rfl) ?_ | refine .other (.sl rfl (.sl _ _) rfl) ?_ | refine .other (.sl rfl (.full _ _) rfl) ?_ | refine .other (.slNil rfl rfl) ?_ | refine .rowNil rfl rfl rfl ?_ | refine .row rfl (by first | rfl | assumption | (rw [← List.map_append]; first | done | rfl | congr 1)) rfl rfl ?_))); (focus (repeat (first | exact .nil | refine KeepB.same rfl rfl rfl ?_ | refine KeepB.sameA rfl rfl rfl ?_))); (focus (repeat (first | exact .nil | refine KeepA.cons rfl (by first | rfl | assumption | exact List.map_set | exact List.map_set.symm | (rw [← List.map_append]; first | done | rfl | congr 1) | (congr 1; first | omega | assumption)) ?_))))
  · obtain rfl : k = rs.length := by omega
    rw [List.take_length]
    repeat' (first | (refine LT.consT ?_; refine T.callRow Try.func30 rfl rfl rfl gS (by decide) rfl ?_) | refine CT.seqR ?_ | refine CT.region ?_ | refine CT.seq1 ?_ | refine CT.block ?_ | refine CT.condT rfl ?_ | refine CT.condF rfl ?_ | refine CT.condD rfl (fun _ => ?_) (fun _ => ?_) | refine CT.condN rfl (fun _ => ?_) (fun _ => ?_) | refine CT.cond rfl (fun _ => ?_) (fun _ => ?_) | refine CT.skip ?_ | refine CT.exit ?_ | refine CT.ret ?_ | refine CT.goto ?_ | refine CT.label ?_ | refine LT.nil ?_ | refine HT.nil1 ?_ | (refine LT.consT ?_; (first | refine T.alloc (e := 56) (z := .agg #[.int .u64 0, .int .u64 0, .int .i64 0, .int .i64 0]) (cs := [.val (.int .u64 0), .val (.int .u64 0), .val (.int .i64 0), .val (.int .i64 0)]) (by kernel_rfl) rfl (by decide) rfl rfl ?_ | refine T.store (t := 56) rfl rfl rfl (by kernel_rfl) (by kernel_rfl) (Nat.le_of_ble_eq_true (by kernel_rfl)) rfl rfl ?_ | refine T.appNil (t := 22) (e := 45) (k := 6) (bytes := 48) rfl rfl srP (by kernel_rfl) szP (by decide) rfl ?_ | refine T.app (t := 22) (e := 45) (k := 6) (bytes := 48) rfl rfl srP (by kernel_rfl) szP (by decide) rfl rfl ?_ | refine T.callRow Try.func13 rfl rfl rfl ((g_Merge _ (by assumption) (by first | omega | (simp; omega) | simp))) (by decide) rfl ?_ | refine T.callRow Try.func30 rfl rfl rfl ((g_eSort _ (by first | omega | (simp; omega) | simp))) (by decide) rfl ?_)) | (apply LT.cons1; (first | exact arm18_1); decide))
    refine ⟨by first | exact .inl rfl | exact .inr rfl, _, (.cons (.tmp 4 (A := .row _ _ _ _) rfl (fun _ h => by cases h)) .nil), ?_, rfl⟩
    rfl
set_option maxRecDepth 100000 in
set_option maxHeartbeats 2000000 in
theorem g_Build1 (rs : List Rte) (ht : TableR rs) (hl : rs.length ≤ 1000) : Good Try.prog 18 [.sl 4 (rs.map encR), .val (.int .i64 1)] (.row 35 45 6 ((buildE rs 1).map encE)) := by
  have hkl := keepR_length ht
  have hkc := keepR_canon ht
  have gK := g_Keep rs ht (by omega)
  have gM := g_Mode 1
  rw [show decide ((0 : Int) ≤ 1 ∧ (1 : Int) ≤ 2) = true from rfl] at gM
  rw [show buildE rs 1 = sortE ((keepR rs).map entR) by unfold buildE; rw [if_neg (by decide), if_pos rfl]]
  generalize keepR rs = ks at hkl hkc gK ⊢
  have gS := g_eSort (ks.map entR) (by rw [List.length_map]; omega)
  refine Good.of_body (T := [(0, _), (1, _)]) Try.func18 rfl rfl rfl ?_
  intro K0 w0 hno
  repeat' (first | (refine LT.consT ?_; refine T.callRow Try.func37 rfl rfl rfl gK (by decide) rfl ?_) | refine CT.seqR ?_ | refine CT.region ?_ | refine CT.seq1 ?_ | refine CT.block ?_ | refine CT.condT rfl ?_ | refine CT.condF rfl ?_ | refine CT.condD rfl (fun _ => ?_) (fun _ => ?_) | refine CT.condN rfl (fun _ => ?_) (fun _ => ?_) | refine CT.cond rfl (fun _ => ?_) (fun _ => ?_) | refine CT.skip ?_ | refine CT.exit ?_ | refine CT.ret ?_ | refine CT.goto ?_ | refine CT.label ?_ | refine LT.nil ?_ | refine HT.nil1 ?_ | (refine LT.consT ?_; (first | refine T.alloc (e := 56) (z := .agg #[.int .u64 0, .int .u64 0, .int .i64 0, .int .i64 0]) (cs := [.val (.int .u64 0), .val (.int .u64 0), .val (.int .i64 0), .val (.int .i64 0)]) (by kernel_rfl) rfl (by decide) rfl rfl ?_ | refine T.store (t := 56) rfl rfl rfl (by kernel_rfl) (by kernel_rfl) (Nat.le_of_ble_eq_true (by kernel_rfl)) rfl rfl ?_ | refine T.appNil (t := 22) (e := 45) (k := 6) (bytes := 48) rfl rfl srP (by kernel_rfl) szP (by decide) rfl ?_ | refine T.app (t := 22) (e := 45) (k := 6) (bytes := 48) rfl rfl srP (by kernel_rfl) szP (by decide) rfl rfl ?_ | refine T.callRow Try.func13 rfl rfl rfl ((g_Merge _ (by assumption) (by first | omega | (simp; omega) | simp))) (by decide) rfl ?_ | refine T.callRow Try.func30 rfl rfl rfl ((g_eSort _ (by first | omega | (simp; omega) | simp))) (by decide) rfl ?_)) | (apply LT.cons1; (first | exact OpH.callF Try.func21 rfl rfl rfl gM rfl | exact arm18_1); decide))
  refine CT.loopX (fun k : Nat => (⟨[(1, .val (.int .i64 1)), (5, .row 5 45 6 (((ks.take k).map entR).map encE)), (15, .row 15 56 4 (ks.map encR)), (16, .val (.int .i64 ks.length)), (17, .val (.int .i64 k))], [], []⟩ : St))
    (fun k => k ≤ ks.length) (fun k => ks.length - k) 0 ?_ (by omega) ?_
  · rw [List.take_zero, List.map_nil]
    (apply Sub.mk; (focus (repeat (first | exact .nil | refine .other (.keep rfl rfl) ?_ | refine .other (.aref rfl rfl rfl) ?_ | refine .other (.val rfl (by first | rfl | (congr 1; first | omega | assumption | (symm; assumption)) | (simp; omega))) ?_ | refine .other .dead ?_ | refine .other (.sl rfl (.row _ _ _ _) rfl) ?_ | refine .other (.sl rfl (.sl _ _) rfl) ?_ | refine .other (.sl rfl (.full _ _) rfl) ?_ | refine .other (.slNil rfl rfl) ?_ | refine .rowNil rfl rfl rfl ?_ | refine .row rfl (by first | rfl | assumption | (rw [← List.map_append]; first | done | rfl | congr 1)) rfl rfl ?_))); (focus (repeat (first | exact .nil | refine KeepB.same rfl rfl rfl ?_ | refine KeepB.sameA rfl rfl rfl ?_))); (focus (repeat (first | exact .nil | refine KeepA.cons rfl (by first | rfl | assumption | exact List.map_set | exact List.map_set.symm | (rw [← List.map_append]; first | done | rfl | congr 1) | (congr 1; first | omega | assumption)) ?_))))
  rintro k hk
  by_cases hlt : k < ks.length
  · have hkl2 : ((ks.take k).map entR).length = k := by rw [List.length_map, List.length_take]; omega
    have gO := g_eOfR ks[k] (hkc _ (List.getElem_mem hlt))
    obtain ⟨e, he⟩ : ∃ e, entR ks[k] = e := ⟨_, rfl⟩
    rw [he] at gO
    repeat' (first | refine CT.seqR ?_ | refine CT.region ?_ | refine CT.seq1 ?_ | refine CT.block ?_ | refine CT.condT rfl ?_ | refine CT.condF rfl ?_ | refine CT.condD rfl (fun _ => ?_) (fun _ => ?_) | refine CT.condN rfl (fun _ => ?_) (fun _ => ?_) | refine CT.cond rfl (fun _ => ?_) (fun _ => ?_) | refine CT.skip ?_ | refine CT.exit ?_ | refine CT.ret ?_ | refine CT.goto ?_ | refine CT.label ?_ | refine LT.nil ?_ | refine HT.nil1 ?_ | (refine LT.consT ?_; (first | refine T.alloc (e := 56) (z := .agg #[.int .u64 0, .int .u64 0, .int .i64 0, .int .i64 0]) (cs := [.val (.int .u64 0), .val (.int .u64 0), .val (.int .i64 0), .val (.int .i64 0)]) (by kernel_rfl) rfl (by decide) rfl rfl ?_ | refine T.store (t := 56) rfl rfl rfl (by kernel_rfl) (by kernel_rfl) (Nat.le_of_ble_eq_true (by kernel_rfl)) rfl rfl ?_ | refine T.appNil (t := 22) (e := 45) (k := 6) (bytes := 48) rfl rfl srP (by kernel_rfl) szP (by decide) rfl ?_ | refine T.app (t := 22) (e := 45) (k := 6) (bytes := 48) rfl rfl srP (by kernel_rfl) szP (by decide) rfl rfl ?_ | refine T.callRow Try.func13 rfl rfl rfl ((g_Merge _ (by assumption) (by first | omega | (simp; omega) | simp))) (by decide) rfl ?_ | refine T.callRow Try.func30 rfl rfl rfl ((g_eSort _ (by first | omega | (simp; omega) | simp))) (by decide) rfl ?_)) | (apply LT.cons1; (first | exact OpH.callF Try.func38 rfl rfl rfl gO rfl | exact arm18_1); decide))
    refine ⟨k + 1, by omega, by omega, ?_⟩
    rw [ents_take hlt, he]
    (apply Sub.mk; (focus (repeat (first | exact .nil | refine .other (.keep rfl rfl) ?_ | refine .other (.aref rfl rfl rfl) ?_ | refine .other (.val rfl (by first | rfl | (congr 1; first | omega | assumption | (symm; assumption)) | (simp; omega))) ?_ | refine .other .dead ?_ | refine .other (.sl rfl (.row _ _ _ _) rfl) ?_ | refine .other (.sl rfl (.sl _ _) rfl) ?_ | refine .other (.sl rfl (.full _ _) rfl) ?_ | refine .other (.slNil rfl rfl) ?_ | refine .rowNil rfl rfl rfl ?_ | refine .row rfl (by first | rfl | assumption | (rw [← List.map_append]; first | done | rfl | congr 1)) rfl rfl ?_))); (focus (repeat (first | exact .nil | refine KeepB.same rfl rfl rfl ?_ | refine KeepB.sameA rfl rfl rfl ?_))); (focus (repeat (first | exact .nil | refine KeepA.cons rfl (by first | rfl | assumption | exact List.map_set | exact List.map_set.symm | (rw [← List.map_append]; first | done | rfl | congr 1) | (congr 1; first | omega | assumption)) ?_))))
  · obtain rfl : k = ks.length := by omega
    rw [List.take_length]
    repeat' (first | (refine LT.consT ?_; refine T.callRow Try.func30 rfl rfl rfl gS (by decide) rfl ?_) | refine CT.seqR ?_ | refine CT.region ?_ | refine CT.seq1 ?_ | refine CT.block ?_ | refine CT.condT rfl ?_ | refine CT.condF rfl ?_ | refine CT.condD rfl (fun _ => ?_) (fun _ => ?_) | refine CT.condN rfl (fun _ => ?_) (fun _ => ?_) | refine CT.cond rfl (fun _ => ?_) (fun _ => ?_) | refine CT.skip ?_ | refine CT.exit ?_ | refine CT.ret ?_ | refine CT.goto ?_ | refine CT.label ?_ | refine LT.nil ?_ | refine HT.nil1 ?_ | (refine LT.consT ?_; (first | refine T.alloc (e := 56) (z := .agg #[.int .u64 0, .int .u64 0, .int .i64 0, .int .i64 0]) (cs := [.val (.int .u64 0), .val (.int .u64 0), .val (.int .i64 0), .val (.int .i64 0)]) (by kernel_rfl) rfl (by decide) rfl rfl ?_ | refine T.store (t := 56) rfl rfl rfl (by kernel_rfl) (by kernel_rfl) (Nat.le_of_ble_eq_true (by kernel_rfl)) rfl rfl ?_ | refine T.appNil (t := 22) (e := 45) (k := 6) (bytes := 48) rfl rfl srP (by kernel_rfl) szP (by decide) rfl ?_ | refine T.app (t := 22) (e := 45) (k := 6) (bytes := 48) rfl rfl srP (by kernel_rfl) szP (by decide) rfl rfl ?_ | refine T.callRow Try.func13 rfl rfl rfl ((g_Merge _ (by assumption) (by first | omega | (simp; omega) | simp))) (by decide) rfl ?_ | refine T.callRow Try.func30 rfl rfl rfl ((g_eSort _ (by first | omega | (simp; omega) | simp))) (by decide) rfl ?_)) | (apply LT.cons1; (first | exact arm18_1); decide))
    refine ⟨by first | exact .inl rfl | exact .inr rfl, _, (.cons (.tmp 4 (A := .row _ _ _ _) rfl (fun _ h => by cases h)) .nil), ?_, rfl⟩
    rfl
set_option maxRecDepth 100000 in
set_option maxHeartbeats 2000000 in
theorem g_Build2 (rs : List Rte) (ht : TableR rs) (hl : rs.length ≤ 1000) : Good Try.prog 18 [.sl 4 (rs.map encR), .val (.int .i64 2)] (.row 33 45 6 ((buildE rs 2).map encE)) := by
  have hkl := keepR_length ht
  have hkc := keepR_canon ht
  have gK := g_Keep rs ht (by omega)
  have gM := g_Mode 2
  rw [show decide ((0 : Int) ≤ 2 ∧ (2 : Int) ≤ 2) = true from rfl] at gM
  rw [show buildE rs 2 = mergeE ((keepR rs).map entR) by unfold buildE; rw [if_neg (by decide), if_neg (by decide)]]
  generalize keepR rs = ks at hkl hkc gK ⊢
  have gS := g_Merge (ks.map entR) (ents_ok hkc) (by rw [List.length_map]; omega)
  refine Good.of_body (T := [(0, _), (1, _)]) Try.func18 rfl rfl rfl ?_
  intro K0 w0 hno
  repeat' (first | (refine LT.consT ?_; refine T.callRow Try.func37 rfl rfl rfl gK (by decide) rfl ?_) | refine CT.seqR ?_ | refine CT.region ?_ | refine CT.seq1 ?_ | refine CT.block ?_ | refine CT.condT rfl ?_ | refine CT.condF rfl ?_ | refine CT.condD rfl (fun _ => ?_) (fun _ => ?_) | refine CT.condN rfl (fun _ => ?_) (fun _ => ?_) | refine CT.cond rfl (fun _ => ?_) (fun _ => ?_) | refine CT.skip ?_ | refine CT.exit ?_ | refine CT.ret ?_ | refine CT.goto ?_ | refine CT.label ?_ | refine LT.nil ?_ | refine HT.nil1 ?_ | (refine LT.consT ?_; (first | refine T.alloc (e := 56) (z := .agg #[.int .u64 0, .int .u64 0, .int .i64 0, .int .i64 0]) (cs := [.val (.int .u64 0), .val (.int .u64 0), .val (.int .i64 0), .val (.int .i64 0)]) (by kernel_rfl) rfl (by decide) rfl rfl ?_ | refine T.store (t := 56) rfl rfl rfl (by kernel_rfl) (by kernel_rfl) (Nat.le_of_ble_eq_true (by kernel_rfl)) rfl rfl ?_ | refine T.appNil (t := 22) (e := 45) (k := 6) (bytes := 48) rfl rfl srP (by kernel_rfl) szP (by decide) rfl ?_ | refine T.app (t := 22) (e := 45) (k := 6) (bytes := 48) rfl rfl srP (by kernel_rfl) szP (by decide) rfl rfl ?_ | refine T.callRow Try.func13 rfl rfl rfl ((g_Merge _ (by assumption) (by first | omega | (simp; omega) | simp))) (by decide) rfl ?_ | refine T.callRow Try.func30 rfl rfl rfl ((g_eSort _ (by first | omega | (simp; omega) | simp))) (by decide) rfl ?_)) | (apply LT.cons1; (first | exact OpH.callF Try.func21 rfl rfl rfl gM rfl | exact arm18_1); decide))
  refine CT.loopX (fun k : Nat => (⟨[(1, .val (.int .i64 2)), (5, .row 5 45 6 (((ks.take k).map entR).map encE)), (15, .row 15 56 4 (ks.map encR)), (16, .val (.int .i64 ks.length)), (17, .val (.int .i64 k))], [], []⟩ : St))
    (fun k => k ≤ ks.length) (fun k => ks.length - k) 0 ?_ (by omega) ?_
  · rw [List.take_zero, List.map_nil]
    (apply Sub.mk; (focus (repeat (first | exact .nil | refine .other (.keep rfl rfl) ?_ | refine .other (.aref rfl rfl rfl) ?_ | refine .other (.val rfl (by first | rfl | (congr 1; first | omega | assumption | (symm; assumption)) | (simp; omega))) ?_ | refine .other .dead ?_ | refine .other (.sl rfl (.row _ _ _ _) rfl) ?_ | refine .other (.sl rfl (.sl _ _) rfl) ?_ | refine .other (.sl rfl (.full _ _) rfl) ?_ | refine .other (.slNil rfl rfl) ?_ | refine .rowNil rfl rfl rfl ?_ | refine .row rfl (by first | rfl | assumption | (rw [← List.map_append]; first | done | rfl | congr 1)) rfl rfl ?_))); (focus (repeat (first | exact .nil | refine KeepB.same rfl rfl rfl ?_ | refine KeepB.sameA rfl rfl rfl ?_))); (focus (repeat (first | exact .nil | refine KeepA.cons rfl (by first | rfl | assumption | exact List.map_set | exact List.map_set.symm | (rw [← List.map_append]; first | done | rfl | congr 1) | (congr 1; first | omega | assumption)) ?_))))
  rintro k hk
  by_cases hlt : k < ks.length
  · have hkl2 : ((ks.take k).map entR).length = k := by rw [List.length_map, List.length_take]; omega
    have gO := g_eOfR ks[k] (hkc _ (List.getElem_mem hlt))
    obtain ⟨e, he⟩ : ∃ e, entR ks[k] = e := ⟨_, rfl⟩
    rw [he] at gO
    repeat' (first | refine CT.seqR ?_ | refine CT.region ?_ | refine CT.seq1 ?_ | refine CT.block ?_ | refine CT.condT rfl ?_ | refine CT.condF rfl ?_ | refine CT.condD rfl (fun _ => ?_) (fun _ => ?_) | refine CT.condN rfl (fun _ => ?_) (fun _ => ?_) | refine CT.cond rfl (fun _ => ?_) (fun _ => ?_) | refine CT.skip ?_ | refine CT.exit ?_ | refine CT.ret ?_ | refine CT.goto ?_ | refine CT.label ?_ | refine LT.nil ?_ | refine HT.nil1 ?_ | (refine LT.consT ?_; (first | refine T.alloc (e := 56) (z := .agg #[.int .u64 0, .int .u64 0, .int .i64 0, .int .i64 0]) (cs := [.val (.int .u64 0), .val (.int .u64 0), .val (.int .i64 0), .val (.int .i64 0)]) (by kernel_rfl) rfl (by decide) rfl rfl ?_ | refine T.store (t := 56) rfl rfl rfl (by kernel_rfl) (by kernel_rfl) (Nat.le_of_ble_eq_true (by kernel_rfl)) rfl rfl ?_ | refine T.appNil (t := 22) (e := 45) (k := 6) (bytes := 48) rfl rfl srP (by kernel_rfl) szP (by decide) rfl ?_ | refine T.app (t := 22) (e := 45) (k := 6) (bytes := 48) rfl rfl srP (by kernel_rfl) szP (by decide) rfl rfl ?_ | refine T.callRow Try.func13 rfl rfl rfl ((g_Merge _ (by assumption) (by first | omega | (simp; omega) | simp))) (by decide) rfl ?_ | refine T.callRow Try.func30 rfl rfl rfl ((g_eSort _ (by first | omega | (simp; omega) | simp))) (by decide) rfl ?_)) | (apply LT.cons1; (first | exact OpH.callF Try.func38 rfl rfl rfl gO rfl | exact arm18_1); decide))
    refine ⟨k + 1, by omega, by omega, ?_⟩
    rw [ents_take hlt, he]
    (apply Sub.mk; (focus (repeat (first | exact .nil | refine .other (.keep rfl rfl) ?_ | refine .other (.aref rfl rfl rfl) ?_ | refine .other (.val rfl (by first | rfl | (congr 1; first | omega | assumption | (symm; assumption)) | (simp; omega))) ?_ | refine .other .dead ?_ | refine .other (.sl rfl (.row _ _ _ _) rfl) ?_ | refine .other (.sl rfl (.sl _ _) rfl) ?_ | refine .other (.sl rfl (.full _ _) rfl) ?_ | refine .other (.slNil rfl rfl) ?_ | refine .rowNil rfl rfl rfl ?_ | refine .row rfl (by first | rfl | assumption | (rw [← List.map_append]; first | done | rfl | congr 1)) rfl rfl ?_))); (focus (repeat (first | exact .nil | refine KeepB.same rfl rfl rfl ?_ | refine KeepB.sameA rfl rfl rfl ?_))); (focus (repeat (first | exact .nil | refine KeepA.cons rfl (by first | rfl | assumption | exact List.map_set | exact List.map_set.symm | (rw [← List.map_append]; first | done | rfl | congr 1) | (congr 1; first | omega | assumption)) ?_))))
  · obtain rfl : k = ks.length := by omega
    rw [List.take_length]
    repeat' (first | (refine LT.consT ?_; refine T.callRow Try.func13 rfl rfl rfl gS (by decide) rfl ?_) | refine CT.seqR ?_ | refine CT.region ?_ | refine CT.seq1 ?_ | refine CT.block ?_ | refine CT.condT rfl ?_ | refine CT.condF rfl ?_ | refine CT.condD rfl (fun _ => ?_) (fun _ => ?_) | refine CT.condN rfl (fun _ => ?_) (fun _ => ?_) | refine CT.cond rfl (fun _ => ?_) (fun _ => ?_) | refine CT.skip ?_ | refine CT.exit ?_ | refine CT.ret ?_ | refine CT.goto ?_ | refine CT.label ?_ | refine LT.nil ?_ | refine HT.nil1 ?_ | (refine LT.consT ?_; (first | refine T.alloc (e := 56) (z := .agg #[.int .u64 0, .int .u64 0, .int .i64 0, .int .i64 0]) (cs := [.val (.int .u64 0), .val (.int .u64 0), .val (.int .i64 0), .val (.int .i64 0)]) (by kernel_rfl) rfl (by decide) rfl rfl ?_ | refine T.store (t := 56) rfl rfl rfl (by kernel_rfl) (by kernel_rfl) (Nat.le_of_ble_eq_true (by kernel_rfl)) rfl rfl ?_ | refine T.appNil (t := 22) (e := 45) (k := 6) (bytes := 48) rfl rfl srP (by kernel_rfl) szP (by decide) rfl ?_ | refine T.app (t := 22) (e := 45) (k := 6) (bytes := 48) rfl rfl srP (by kernel_rfl) szP (by decide) rfl rfl ?_ | refine T.callRow Try.func13 rfl rfl rfl ((g_Merge _ (by assumption) (by first | omega | (simp; omega) | simp))) (by decide) rfl ?_ | refine T.callRow Try.func30 rfl rfl rfl ((g_eSort _ (by first | omega | (simp; omega) | simp))) (by decide) rfl ?_)) | (apply LT.cons1; (first | exact arm18_1); decide))
    refine ⟨by first | exact .inl rfl | exact .inr rfl, _, (.cons (.tmp 4 (A := .row _ _ _ _) rfl (fun _ h => by cases h)) .nil), ?_, rfl⟩
    rfl
set_option maxRecDepth 100000 in
set_option maxHeartbeats 2000000 in
theorem g_BuildN (rs : List Rte) (mode : Int) (h : ¬ (0 ≤ mode ∧ mode ≤ 2)) : Good Try.prog 18 [.sl 4 (rs.map encR), .val (.int .i64 mode)] (.sl 6 (([] : List Ent).map encE)) := by
  have gM := g_Mode mode
  rw [decide_eq_false h] at gM
  refine Good.of_body (T := [(0, _), (1, _)]) Try.func18 rfl rfl rfl ?_
  intro K0 w0 hno
  repeat' (first | (refine CT.sub (S' := ⟨[(4, .sl 6 (([] : List Ent).map encE))], [], []⟩) ?_ (CT.ret ?_)) | refine CT.seqR ?_ | refine CT.region ?_ | refine CT.seq1 ?_ | refine CT.block ?_ | refine CT.condT rfl ?_ | refine CT.condF rfl ?_ | refine CT.condD rfl (fun _ => ?_) (fun _ => ?_) | refine CT.condN rfl (fun _ => ?_) (fun _ => ?_) | refine CT.cond rfl (fun _ => ?_) (fun _ => ?_) | refine CT.skip ?_ | refine CT.exit ?_ | refine CT.ret ?_ | refine CT.goto ?_ | refine CT.label ?_ | refine LT.nil ?_ | refine HT.nil1 ?_ | (refine LT.consT ?_; (first | refine T.alloc (e := 56) (z := .agg #[.int .u64 0, .int .u64 0, .int .i64 0, .int .i64 0]) (cs := [.val (.int .u64 0), .val (.int .u64 0), .val (.int .i64 0), .val (.int .i64 0)]) (by kernel_rfl) rfl (by decide) rfl rfl ?_ | refine T.store (t := 56) rfl rfl rfl (by kernel_rfl) (by kernel_rfl) (Nat.le_of_ble_eq_true (by kernel_rfl)) rfl rfl ?_ | refine T.appNil (t := 22) (e := 45) (k := 6) (bytes := 48) rfl rfl srP (by kernel_rfl) szP (by decide) rfl ?_ | refine T.app (t := 22) (e := 45) (k := 6) (bytes := 48) rfl rfl srP (by kernel_rfl) szP (by decide) rfl rfl ?_ | refine T.callRow Try.func13 rfl rfl rfl ((g_Merge _ (by assumption) (by first | omega | (simp; omega) | simp))) (by decide) rfl ?_ | refine T.callRow Try.func30 rfl rfl rfl ((g_eSort _ (by first | omega | (simp; omega) | simp))) (by decide) rfl ?_)) | (apply LT.cons1; (first | exact OpH.callF Try.func21 rfl rfl rfl gM rfl | exact arm18_1); decide))
  · (apply Sub.mk; (focus (repeat (first | exact .nil | refine .other (.keep rfl rfl) ?_ | refine .other (.aref rfl rfl rfl) ?_ | refine .other (.val rfl (by first | rfl | (congr 1; first | omega | assumption | (symm; assumption)) | (simp; omega))) ?_ | refine .other .dead ?_ | refine .other (.sl rfl (.row _ _ _ _) rfl) ?_ | refine .other (.sl rfl (.sl _ _) rfl) ?_ | refine .other (.sl rfl (.full _ _) rfl) ?_ | refine .other (.slNil rfl rfl) ?_ | refine .rowNil rfl rfl rfl ?_ | refine .row rfl (by first | rfl | assumption | (rw [← List.map_append]; first | done | rfl | congr 1)) rfl rfl ?_))); (focus (repeat (first | exact .nil | refine KeepB.same rfl rfl rfl ?_ | refine KeepB.sameA rfl rfl rfl ?_))); (focus (repeat (first | exact .nil | refine KeepA.cons rfl (by first | rfl | assumption | exact List.map_set | exact List.map_set.symm | (rw [← List.map_append]; first | done | rfl | congr 1) | (congr 1; first | omega | assumption)) ?_))))
  · refine ⟨by first | exact .inl rfl | exact .inr rfl, _, (.cons (.tmp 4 (A := .sl _ _) rfl (fun _ h => by cases h)) .nil), ?_, rfl⟩
    rfl
end Go.Proofs.Ytjibochjmmehcaa
