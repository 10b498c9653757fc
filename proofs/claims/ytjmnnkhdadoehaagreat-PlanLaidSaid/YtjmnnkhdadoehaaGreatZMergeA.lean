/- Merging, in plain Lean; merge.two. -/
import Derived.Test.YtjmnnkhdadoehaaGreatZWalkM
import Derived.Test.YtjmnnkhdadoehaaGreatZAbs8
import Derived.Test.YtjmnnkhdadoehaaGreatZWalkS
import Derived.Test.YtjmnnkhdadoehaaGreatZLen
import Derived.Test.YtjmnnkhdadoehaaGreatZWalkH
namespace Go.Proofs.YtjmnnkhdadoehaaGreat
set_option linter.unusedSimpArgs false
set_option linter.unusedVariables false
open Go Go.RowKit Go.Shelf
theorem dif_eq {x y : W2} (hx : x.ok) (hy : y.ok) {i : Nat} : abit (aDiffer x.v y.v x.m) i = mDif x y i := by
  unfold aDiffer mDif
  rw [abit_and (ok_xor hx.1 hy.1) hx.2, abit_xor hx.1 hy.1, Bool.and_comm]
theorem mergeIs_ref {x y : W2} (hx : x.ok) (hy : y.ok) : rMergeIs x y = wMergeIs x y := by
  unfold rMergeIs wMergeIs
  rw [aOnes_cnt (a := aDiffer x.v y.v x.m) (ok_and (ok_xor hx.1 hy.1) hx.2), cntTo_congr 128 fun i _ => (dif_eq hx hy (i := i))]
  congr 1
  rw [decide_eq_decide]
  omega
theorem wMerge_ok {x y : W2} (hx : x.ok) (hy : y.ok) : (wMergeW x y).ok := by
  unfold wMergeW
  split
  · exact ⟨ok_and hx.1 (ok_xor hx.2 (ok_and (ok_xor hx.1 hy.1) hx.2)), ok_xor hx.2 (ok_and (ok_xor hx.1 hy.1) hx.2)⟩
  · exact ⟨ok_zero, ok_zero⟩
/-! ### The first two that merge -/
def goodP (l : List Ent) (i k : Nat) : Bool := decide ((nth l k).len = (nth l i).len) && (decide ((nth l k).act = (nth l i).act) && wMergeIs (nth l i).w (nth l k).w)
def fst2 (l : List Ent) : Option (Nat × Nat) := (List.range l.length).findSome? fun i => ((List.range l.length).find? fun k => decide (i < k) && goodP l i k).map fun k => (i, k)
theorem fst2_spec {l : List Ent} {i k : Nat} (h : fst2 l = some (i, k)) : i < k ∧ k < l.length ∧ goodP l i k = true := by
  unfold fst2 at h
  obtain ⟨a, ha, hb⟩ := List.exists_of_findSome?_eq_some h
  rw [Option.map_eq_some_iff] at hb
  obtain ⟨k', hk, e⟩ := hb
  injection e with e1 e2
  subst e1 e2
  have h1 := List.find?_some hk
  have h2 := List.mem_of_find?_eq_some hk
  simp only [Bool.and_eq_true, decide_eq_true_eq] at h1
  exact ⟨h1.1, List.mem_range.1 h2, h1.2⟩
end Go.Proofs.YtjmnnkhdadoehaaGreat

/- merge.two, merge.Merge. -/
namespace Go.Proofs.YtjmnnkhdadoehaaGreat
set_option linter.unusedSimpArgs false
set_option linter.unusedVariables false
open Go Go.RowKit Go.Shelf
attribute [local irreducible] OpH OpT LT CT HT Good
end Go.Proofs.YtjmnnkhdadoehaaGreat

/- merge.Merge. -/
namespace Go.Proofs.YtjmnnkhdadoehaaGreat
set_option linter.unusedSimpArgs false
set_option linter.unusedVariables false
open Go Go.RowKit Go.Shelf
def keepTo (l : List Ent) (i k n : Nat) : List Ent := ((List.range n).filter fun j => decide (j ≠ i) && decide (j ≠ k)).map (nth l)
theorem keepTo_skip {l : List Ent} {i k n : Nat} (h : n = i ∨ n = k) : keepTo l i k (n + 1) = keepTo l i k n := by
  unfold keepTo
  rw [List.range_succ, List.filter_append, List.filter_cons_of_neg (by rcases h with h | h <;> simp [h]), List.filter_nil, List.append_nil]
theorem keepTo_length (l : List Ent) {i k : Nat} (hik : i < k) : ∀ n, (keepTo l i k n).length + (if i < n then 1 else 0) + (if k < n then 1 else 0) = n
  | 0 => by simp [keepTo]
  | n + 1 => by
    have ih := keepTo_length l hik n
    by_cases h1 : n = i
    · rw [keepTo_skip (.inl h1)]
      rw [if_neg (by omega), if_neg (by omega)] at ih
      rw [if_pos (by omega), if_neg (by omega)]; omega
    · by_cases h2 : n = k
      · rw [keepTo_skip (.inr h2)]
        rw [if_pos (by omega), if_neg (by omega)] at ih
        rw [if_pos (by omega), if_pos (by omega)]; omega
      · have e : (keepTo l i k (n + 1)).length = (keepTo l i k n).length + 1 := by
          unfold keepTo
          rw [List.range_succ, List.filter_append, List.filter_cons_of_pos (by simp [h1, h2]), List.filter_nil]
          simp
        rw [e]
        have a1 : (if i < n + 1 then 1 else 0) = (if i < n then 1 else 0) := by
          by_cases h : i < n
          · rw [if_pos h, if_pos (by omega)]
          · rw [if_neg h, if_neg (by omega)]
        have a2 : (if k < n + 1 then 1 else 0) = (if k < n then 1 else 0) := by
          by_cases h : k < n
          · rw [if_pos h, if_pos (by omega)]
          · rw [if_neg h, if_neg (by omega)]
        rw [a1, a2]; omega
theorem keepTo_mem {l : List Ent} {i k n : Nat} (hn : n ≤ l.length) {x : Ent} (h : x ∈ keepTo l i k n) : x ∈ l := by
  unfold keepTo at h
  obtain ⟨j, hj, rfl⟩ := List.mem_map.1 h
  have hjn := List.mem_range.1 (List.mem_filter.1 hj).1
  rw [nth_at l (by omega)]
  exact List.getElem_mem _
def mEnt (l : List Ent) (i k : Nat) : Ent := ⟨wMergeW (nth l i).w (nth l k).w, (nth l i).len, (nth l i).act⟩
def stepM (l : List Ent) : Option (List Ent) := (fst2 l).map fun p => sortE (keepTo l p.1 p.2 l.length ++ [mEnt l p.1 p.2])
def mergeN : Nat → List Ent → List Ent
  | 0, l => l
  | n + 1, l => match stepM l with
    | none => l
    | some l' => mergeN n l'
def mergeE (l : List Ent) : List Ent := mergeN l.length (sortE l)
theorem step_length {l l' : List Ent} (h : stepM l = some l') : l'.length + 1 = l.length := by
  unfold stepM at h
  rw [Option.map_eq_some_iff] at h
  obtain ⟨⟨i, k⟩, h1, rfl⟩ := h
  obtain ⟨h2, h3, _⟩ := fst2_spec h1
  have := keepTo_length l h2 l.length
  rw [if_pos (by omega), if_pos (by omega)] at this
  rw [sortE_length, List.length_append, List.length_singleton]
  omega
theorem step_ok {l l' : List Ent} (h : stepM l = some l') (hok : ∀ x ∈ l, x.w.ok) : ∀ x ∈ l', x.w.ok := fun x hx => by
  unfold stepM at h
  rw [Option.map_eq_some_iff] at h
  obtain ⟨⟨i, k⟩, h1, rfl⟩ := h
  obtain ⟨h2, h3, _⟩ := fst2_spec h1
  rw [sortE_mem, List.mem_append] at hx
  rcases hx with hx | hx
  · exact hok x (keepTo_mem (Nat.le_refl _) hx)
  · rw [List.mem_singleton.1 hx]
    unfold mEnt
    rw [nth_at l (by omega : i < l.length), nth_at l h3]
    exact wMerge_ok (hok _ (List.getElem_mem _)) (hok _ (List.getElem_mem _))
attribute [local irreducible] OpH OpT LT CT HT Good
end Go.Proofs.YtjmnnkhdadoehaaGreat

/- What merging comes to, in plain Lean. -/
namespace Go.Proofs.YtjmnnkhdadoehaaGreat
set_option linter.unusedSimpArgs false
set_option linter.unusedVariables false
open Go
theorem mergeN_length : ∀ (n : Nat) (l : List Ent), (mergeN n l).length ≤ l.length
  | 0, l => Nat.le_refl _
  | n + 1, l => by
    cases hs : stepM l with
    | none => simp only [mergeN, hs]; exact Nat.le_refl _
    | some l' =>
      have := step_length hs
      have := mergeN_length n l'
      simp only [mergeN, hs]; omega
theorem mergeE_length (l : List Ent) : (mergeE l).length ≤ l.length := by
  have := mergeN_length l.length (sortE l)
  rw [sortE_length] at this
  exact this
theorem mergeN_ok : ∀ (n : Nat) (l : List Ent), (∀ x ∈ l, x.w.ok) → ∀ x ∈ mergeN n l, x.w.ok
  | 0, l, h => h
  | n + 1, l, h => by
    cases hs : stepM l with
    | none => simp only [mergeN, hs]; exact h
    | some l' => simp only [mergeN, hs]; exact mergeN_ok n l' (step_ok hs h)
theorem mergeE_ok {l : List Ent} (h : ∀ x ∈ l, x.w.ok) : ∀ x ∈ mergeE l, x.w.ok := mergeN_ok _ _ fun x hx => h x (sortE_mem.1 hx)
end Go.Proofs.YtjmnnkhdadoehaaGreat

/- What addr.Common, prefix.Match, prefix.Covers and the reference's prefixes do. -/
namespace Go.Proofs.YtjmnnkhdadoehaaGreat
set_option linter.unusedSimpArgs false
set_option linter.unusedVariables false
open Go Go.RowKit Go.Shelf
theorem g_lz (x : Int) (h : U x) : Good Tryz.prog 138 [.val (.int .u64 x)] (.val (.int .i64 (lz x))) := by
  rw [← (lz_int h).1]
  exact Good.vals (args := [.int .u64 x]) rfl fun w => (c_lz64 x w h.1 (by have := h.2; omega)).mono fun e w' ⟨h1, h2⟩ => ⟨h1, by rw [h2]; exact Below.refl _ _⟩
attribute [local irreducible] OpH OpT LT CT HT Good
theorem arm104_1 {p : Prop} (h : p := by first | exact OpH.assign (v := .val _) rfl | exact OpH.assign (v := .sl _ _) rfl | exact OpH.assign (v := .row _ _ _ _) rfl | exact OpH.assign (v := .full _ _) rfl | exact OpH.assign (v := .ptr _ _) rfl | exact OpH.assign (v := .cptr _) rfl | exact OpH.assign (v := .cloB _ _) rfl | exact OpH.assign (v := .clo _ _) rfl | exact OpH.assign (v := .pr _) rfl | exact OpH.assign (v := .arow _) rfl | exact OpH.assign (v := .aptr _ _ _ _) rfl | exact OpH.assign (v := .asub _ _ _ _) rfl | exact OpH.assign (v := .tup _) rfl | exact loadC2 (t := 25) rfl (by kernel_rfl) | exact loadB2 (t := 25) rfl rfl (by kernel_rfl) rfl | exact OpH.callF Tryz.func126 rfl rfl rfl (g_Xor _ _ _ _) rfl | exact OpH.indexAC (t := 25) (k := 1) (n := 2) (j := 0) rfl rfl rfl (by kernel_rfl) (by decide) rfl | exact OpH.indexAB (t := 25) (k := 1) (n := 2) (j := 0) rfl rfl rfl (by kernel_rfl) (by decide) rfl | exact OpH.loadC1 (t := 23) rfl (by kernel_rfl) rfl | exact OpH.loadB1 (t := 23) rfl rfl (by kernel_rfl) rfl | exact OpH.bin rfl rfl (pb_neq_t (by first | omega | assumption)) | exact OpH.bin rfl rfl (pb_neq_f (by first | omega | assumption)) | exact OpH.bin rfl rfl (pb_neq) | exact OpH.callF Tryz.func138 rfl rfl rfl ((g_lz _ (by assumption))) rfl | exact OpH.indexAC (t := 25) (k := 1) (n := 2) (j := 1) rfl rfl rfl (by kernel_rfl) (by decide) rfl | exact OpH.indexAB (t := 25) (k := 1) (n := 2) (j := 1) rfl rfl rfl (by kernel_rfl) (by decide) rfl | exact OpH.bin rfl rfl (pb_inc (by omega)) | exact OpH.bin rfl rfl (pb_addN rfl (by omega)) | exact OpH.bin rfl rfl (pb_add (by omega)) | exact OpH.bin rfl rfl (pb_addw)) : p := h
set_option maxRecDepth 100000 in
set_option maxHeartbeats 2000000 in
theorem g_aCommon (a b : A2) (ha : a.ok) (hb : b.ok) : Good Tryz.prog 104 [.val (.agg #[.int .u64 a.x, .int .u64 a.y]), .val (.agg #[.int .u64 b.x, .int .u64 b.y])] (.val (.int .i64 (aCommon a b))) := by
  have hx : U (aXor a b).x := U_xor ha.1 hb.1
  have hy : U (aXor a b).y := U_xor ha.2 hb.2
  have lx := (lz_int hx).2
  have ly := (lz_int hy).2
  refine Good.of_body (T := [(0, _), (1, _)]) Tryz.func104 rfl rfl rfl ?_
  intro K0 w0 hno
  by_cases e : (aXor a b).x = 0
  · have e' : aCommon a b = 64 + lz (aXor a b).y := by unfold aCommon; rw [if_neg (by simp [e])]
    repeat' (first | refine CT.seqR ?_ | refine CT.region ?_ | refine CT.seq1 ?_ | refine CT.block ?_ | refine CT.condT rfl ?_ | refine CT.condF rfl ?_ | refine CT.condD rfl (fun _ => ?_) (fun _ => ?_) | refine CT.condN rfl (fun _ => ?_) (fun _ => ?_) | refine CT.cond rfl (fun _ => ?_) (fun _ => ?_) | refine CT.skip ?_ | refine CT.exit ?_ | refine CT.ret ?_ | refine LT.nil ?_ | refine HT.nil1 ?_ | (refine LT.consT ?_; (first | refine T.box (e := 25) (cs := [.val _, .val _]) rfl rfl (by decide) rfl rfl ?_ | refine T.alloc (e := 25) (z := .agg #[.int .u64 0, .int .u64 0]) (cs := [.val (.int .u64 0), .val (.int .u64 0)]) (by kernel_rfl) rfl (by decide) rfl rfl ?_ | refine T.store (t := 25) rfl rfl rfl (by kernel_rfl) (by kernel_rfl) (Nat.le_of_ble_eq_true (by kernel_rfl)) rfl rfl ?_)) | (apply LT.cons1; (first | exact arm104_1); decide))
    refine ⟨by first | exact .inl rfl | exact .inr rfl, _, (.cons (.tmp 4 (A := .val _) rfl (fun _ h => by cases h)) .nil), ?_, rfl⟩
    rw [e', IntWalk.i64_in _ (show -9223372036854775808 ≤ (64 : Int) + (lz (aXor a b).y : Int) ∧ (64 : Int) + (lz (aXor a b).y : Int) ≤ 9223372036854775807 by omega)]
    rfl
  · have e' : aCommon a b = lz (aXor a b).x := by unfold aCommon; rw [if_pos e]
    repeat' (first | refine CT.seqR ?_ | refine CT.region ?_ | refine CT.seq1 ?_ | refine CT.block ?_ | refine CT.condT rfl ?_ | refine CT.condF rfl ?_ | refine CT.condD rfl (fun _ => ?_) (fun _ => ?_) | refine CT.condN rfl (fun _ => ?_) (fun _ => ?_) | refine CT.cond rfl (fun _ => ?_) (fun _ => ?_) | refine CT.skip ?_ | refine CT.exit ?_ | refine CT.ret ?_ | refine LT.nil ?_ | refine HT.nil1 ?_ | (refine LT.consT ?_; (first | refine T.box (e := 25) (cs := [.val _, .val _]) rfl rfl (by decide) rfl rfl ?_ | refine T.alloc (e := 25) (z := .agg #[.int .u64 0, .int .u64 0]) (cs := [.val (.int .u64 0), .val (.int .u64 0)]) (by kernel_rfl) rfl (by decide) rfl rfl ?_ | refine T.store (t := 25) rfl rfl rfl (by kernel_rfl) (by kernel_rfl) (Nat.le_of_ble_eq_true (by kernel_rfl)) rfl rfl ?_)) | (apply LT.cons1; (first | exact arm104_1); decide))
    refine ⟨by first | exact .inl rfl | exact .inr rfl, _, (.cons (.tmp 4 (A := .val _) rfl (fun _ h => by cases h)) .nil), ?_, rfl⟩
    rw [e']
    rfl
theorem arm76_1 {p : Prop} (h : p := by first | exact OpH.assign (v := .val _) rfl | exact OpH.assign (v := .sl _ _) rfl | exact OpH.assign (v := .row _ _ _ _) rfl | exact OpH.assign (v := .full _ _) rfl | exact OpH.assign (v := .ptr _ _) rfl | exact OpH.assign (v := .cptr _) rfl | exact OpH.assign (v := .cloB _ _) rfl | exact OpH.assign (v := .clo _ _) rfl | exact OpH.assign (v := .pr _) rfl | exact OpH.assign (v := .arow _) rfl | exact OpH.assign (v := .aptr _ _ _ _) rfl | exact OpH.assign (v := .asub _ _ _ _) rfl | exact OpH.assign (v := .tup _) rfl | exact OpH.fieldC (s := 65) (f := 0) (off := 0) rfl (by kernel_rfl) rfl | exact OpH.fieldB (s := 65) (f := 0) (off := 0) rfl (by kernel_rfl) rfl | exact loadC2 (t := 25) rfl (by kernel_rfl) | exact loadB2 (t := 25) rfl rfl (by kernel_rfl) rfl | exact OpH.callF Tryz.func104 rfl rfl rfl ((g_aCommon _ _ (by assumption) (by assumption))) rfl | exact OpH.fieldC (s := 65) (f := 1) (off := 2) rfl (by kernel_rfl) rfl | exact OpH.fieldB (s := 65) (f := 1) (off := 2) rfl (by kernel_rfl) rfl | exact OpH.loadC1 (t := 3) rfl (by kernel_rfl) rfl | exact OpH.loadB1 (t := 3) rfl rfl (by kernel_rfl) rfl | exact OpH.max2 rfl rfl | exact OpH.min2 rfl rfl | exact OpH.bin rfl rfl (pb_geq_t (by omega)) | exact OpH.bin rfl rfl (pb_geq_f (by omega)) | exact OpH.bin rfl rfl (pb_geq)) : p := h
set_option maxRecDepth 100000 in
set_option maxHeartbeats 2000000 in
theorem g_pMatch (p : Pfx) (a : A2) (hp : p.a.ok) (ha : a.ok) : Good Tryz.prog 76 [.val (.agg #[.int .u64 p.a.x, .int .u64 p.a.y, .int .i64 p.len]), .val (.agg #[.int .u64 a.x, .int .u64 a.y])] (.val (.bool (rpMatch p a))) := by
  rw [← pmatch_ref hp ha]
  have gC := g_aCommon p.a a hp ha
  refine Good.of_body (T := [(0, _), (1, _)]) Tryz.func76 rfl rfl rfl ?_
  intro K0 w0 hno
  repeat' (first | refine CT.seqR ?_ | refine CT.seqD (id := 1) 9 (by kernel_rfl) (by kernel_rfl) ?_ | refine CT.draw (id := 1) 9 (by kernel_rfl) (by kernel_rfl) ?_ | refine CT.region ?_ | refine CT.seq1 ?_ | refine CT.block ?_ | refine CT.condT rfl ?_ | refine CT.condF rfl ?_ | refine CT.condD rfl (fun _ => ?_) (fun _ => ?_) | refine CT.condN rfl (fun _ => ?_) (fun _ => ?_) | refine CT.cond rfl (fun _ => ?_) (fun _ => ?_) | refine CT.skip ?_ | refine CT.exit ?_ | refine CT.ret ?_ | refine LT.nil ?_ | refine HT.nil1 ?_ | (refine LT.consT ?_; (first | refine T.box (e := 65) (cs := [.val _, .val _, .val _]) rfl rfl (by decide) rfl rfl ?_ | refine T.box (e := 25) (cs := [.val _, .val _]) rfl rfl (by decide) rfl rfl ?_)) | ((first | apply LT.cons1 | apply HT.cons1); (first | exact OpH.callF Tryz.func104 rfl rfl rfl gC rfl | exact arm76_1); (try decide)))
  refine ⟨by first | exact .inl rfl | exact .inr rfl, _, (.cons (.tmp 4 (A := .val _) rfl (fun _ h => by cases h)) .nil), ?_, rfl⟩
  have e : (if 128 < (if p.len < 0 then 0 else p.len) then 128 else if p.len < 0 then 0 else p.len) = clamp p.len := by
    unfold clamp
    (repeat' split) <;> omega
  rw [e]
  rfl
theorem g_r1Cmp (a b : A2) (ha : a.ok) (hb : b.ok) : Good Tryz.prog 84 [.val (.agg #[.int .u64 a.x, .int .u64 a.y]), .val (.agg #[.int .u64 b.x, .int .u64 b.y])] (.val (.int .i64 (aCompare a b))) :=
  Good.vals (args := [.agg #[.int .u64 a.x, .int .u64 a.y], .agg #[.int .u64 b.x, .int .u64 b.y]]) rfl fun w => c_r01Compare a.x a.y b.x b.y ha hb w
theorem arm57_1 {p : Prop} (h : p := by first | exact OpH.assign (v := .val _) rfl | exact OpH.assign (v := .sl _ _) rfl | exact OpH.assign (v := .row _ _ _ _) rfl | exact OpH.assign (v := .full _ _) rfl | exact OpH.assign (v := .ptr _ _) rfl | exact OpH.assign (v := .cptr _) rfl | exact OpH.assign (v := .cloB _ _) rfl | exact OpH.assign (v := .clo _ _) rfl | exact OpH.assign (v := .pr _) rfl | exact OpH.assign (v := .arow _) rfl | exact OpH.assign (v := .aptr _ _ _ _) rfl | exact OpH.assign (v := .asub _ _ _ _) rfl | exact OpH.assign (v := .tup _) rfl | exact OpH.fieldC (s := 116) (f := 0) (off := 0) rfl (by kernel_rfl) rfl | exact OpH.fieldB (s := 116) (f := 0) (off := 0) rfl (by kernel_rfl) rfl | exact loadC2 (t := 24) rfl (by kernel_rfl) | exact loadB2 (t := 24) rfl rfl (by kernel_rfl) rfl | exact OpH.move (v := .val _) rfl | exact OpH.move (v := .sl _ _) rfl | exact OpH.move (v := .row _ _ _ _) rfl | exact OpH.move (v := .full _ _) rfl | exact OpH.move (v := .ptr _ _) rfl | exact OpH.move (v := .cptr _) rfl | exact OpH.move (v := .cloB _ _) rfl | exact OpH.move (v := .clo _ _) rfl | exact OpH.move (v := .pr _) rfl | exact OpH.move (v := .arow _) rfl | exact OpH.move (v := .aptr _ _ _ _) rfl | exact OpH.move (v := .asub _ _ _ _) rfl | exact OpH.move (v := .tup _) rfl | exact OpH.bin rfl rfl (pb_eql_t (by first | omega | assumption)) | exact OpH.bin rfl rfl (pb_eql_f (by first | omega | assumption)) | exact OpH.bin rfl rfl (pb_eql) | exact OpH.fieldC (s := 116) (f := 1) (off := 2) rfl (by kernel_rfl) rfl | exact OpH.fieldB (s := 116) (f := 1) (off := 2) rfl (by kernel_rfl) rfl | exact OpH.loadC1 (t := 3) rfl (by kernel_rfl) rfl | exact OpH.loadB1 (t := 3) rfl rfl (by kernel_rfl) rfl | exact OpH.bin rfl rfl (pb_lss_t (by omega)) | exact OpH.bin rfl rfl (pb_lss_f (by omega)) | exact OpH.bin rfl rfl (pb_lss) | exact OpH.pick (b := true) (v := .val _) rfl rfl | exact OpH.pick (b := false) (v := .val _) rfl rfl | exact OpH.pick (b := true) (v := .sl _ _) rfl rfl | exact OpH.pick (b := false) (v := .sl _ _) rfl rfl | exact OpH.pick (b := true) (v := .row _ _ _ _) rfl rfl | exact OpH.pick (b := false) (v := .row _ _ _ _) rfl rfl | exact OpH.pick (b := true) (v := .full _ _) rfl rfl | exact OpH.pick (b := false) (v := .full _ _) rfl rfl | exact OpH.pickV rfl rfl rfl | exact OpH.bin rfl rfl (pb_gtr_t (by omega)) | exact OpH.bin rfl rfl (pb_gtr_f (by omega)) | exact OpH.bin rfl rfl (pb_gtr)) : p := h
set_option maxRecDepth 100000 in
set_option maxHeartbeats 2000000 in
theorem g_r2Cmp (p q : Pfx) (hp : p.a.ok) (hq : q.a.ok) : Good Tryz.prog 57 [.val (.agg #[.int .u64 p.a.x, .int .u64 p.a.y, .int .i64 p.len]), .val (.agg #[.int .u64 q.a.x, .int .u64 q.a.y, .int .i64 q.len])] (.val (.int .i64 (pCmp p q))) := by
  have gC := g_r1Cmp p.a q.a hp hq
  unfold pCmp
  generalize aCompare p.a q.a = c at gC ⊢
  refine Good.of_body (T := [(0, _), (1, _)]) Tryz.func57 rfl rfl rfl ?_
  intro K0 w0 hno
  by_cases h0 : c = 0
  · rw [if_pos h0]
    by_cases h1 : p.len < q.len
    · rw [if_pos h1]
      repeat' (first | refine CT.seqR ?_ | refine CT.region ?_ | refine CT.seq1 ?_ | refine CT.block ?_ | refine CT.condT rfl ?_ | refine CT.condF rfl ?_ | refine CT.condD rfl (fun _ => ?_) (fun _ => ?_) | refine CT.condN rfl (fun _ => ?_) (fun _ => ?_) | refine CT.cond rfl (fun _ => ?_) (fun _ => ?_) | refine CT.skip ?_ | refine CT.exit ?_ | refine CT.ret ?_ | refine LT.nil ?_ | refine HT.nil1 ?_ | (refine LT.consT ?_; (first | refine T.box (e := 116) (cs := [.val _, .val _, .val _]) rfl rfl (by decide) rfl rfl ?_)) | ((first | apply LT.cons1 | (apply LT.guard1; rfl; rfl; rfl; decide)); (first | exact OpH.callF Tryz.func84 rfl rfl rfl gC rfl | exact arm57_1); decide) | refine LT.skip1 rfl rfl rfl (by decide) (by decide) ?_ | refine LT.skip2 rfl rfl (by decide) (by decide) ?_ | refine LT.partD rfl rfl (fun _ => ?_) (fun _ => ?_) | refine LT.partN rfl rfl (fun _ => ?_) (fun _ => ?_) | (refine LT.part1 rfl rfl (fun h => ?_) (fun h => ?_); (fail_if_success exact absurd h (by decide)); rotate_left; (fail_if_success exact absurd h (by decide)); rotate_left))
      refine ⟨by first | exact .inl rfl | exact .inr rfl, _, (.cons (.tmp 4 (A := .val _) rfl (fun _ h => by cases h)) .nil), ?_, rfl⟩
      rfl
    · rw [if_neg h1]
      by_cases h2 : q.len < p.len
      · rw [if_pos h2]
        repeat' (first | refine CT.seqR ?_ | refine CT.region ?_ | refine CT.seq1 ?_ | refine CT.block ?_ | refine CT.condT rfl ?_ | refine CT.condF rfl ?_ | refine CT.condD rfl (fun _ => ?_) (fun _ => ?_) | refine CT.condN rfl (fun _ => ?_) (fun _ => ?_) | refine CT.cond rfl (fun _ => ?_) (fun _ => ?_) | refine CT.skip ?_ | refine CT.exit ?_ | refine CT.ret ?_ | refine LT.nil ?_ | refine HT.nil1 ?_ | (refine LT.consT ?_; (first | refine T.box (e := 116) (cs := [.val _, .val _, .val _]) rfl rfl (by decide) rfl rfl ?_)) | ((first | apply LT.cons1 | (apply LT.guard1; rfl; rfl; rfl; decide)); (first | exact OpH.callF Tryz.func84 rfl rfl rfl gC rfl | exact arm57_1); decide) | refine LT.skip1 rfl rfl rfl (by decide) (by decide) ?_ | refine LT.skip2 rfl rfl (by decide) (by decide) ?_ | refine LT.partD rfl rfl (fun _ => ?_) (fun _ => ?_) | refine LT.partN rfl rfl (fun _ => ?_) (fun _ => ?_) | (refine LT.part1 rfl rfl (fun h => ?_) (fun h => ?_); (fail_if_success exact absurd h (by decide)); rotate_left; (fail_if_success exact absurd h (by decide)); rotate_left))
        refine ⟨by first | exact .inl rfl | exact .inr rfl, _, (.cons (.tmp 4 (A := .val _) rfl (fun _ h => by cases h)) .nil), ?_, rfl⟩
        rfl
      · rw [if_neg h2]
        repeat' (first | refine CT.seqR ?_ | refine CT.region ?_ | refine CT.seq1 ?_ | refine CT.block ?_ | refine CT.condT rfl ?_ | refine CT.condF rfl ?_ | refine CT.condD rfl (fun _ => ?_) (fun _ => ?_) | refine CT.condN rfl (fun _ => ?_) (fun _ => ?_) | refine CT.cond rfl (fun _ => ?_) (fun _ => ?_) | refine CT.skip ?_ | refine CT.exit ?_ | refine CT.ret ?_ | refine LT.nil ?_ | refine HT.nil1 ?_ | (refine LT.consT ?_; (first | refine T.box (e := 116) (cs := [.val _, .val _, .val _]) rfl rfl (by decide) rfl rfl ?_)) | ((first | apply LT.cons1 | (apply LT.guard1; rfl; rfl; rfl; decide)); (first | exact OpH.callF Tryz.func84 rfl rfl rfl gC rfl | exact arm57_1); decide) | refine LT.skip1 rfl rfl rfl (by decide) (by decide) ?_ | refine LT.skip2 rfl rfl (by decide) (by decide) ?_ | refine LT.partD rfl rfl (fun _ => ?_) (fun _ => ?_) | refine LT.partN rfl rfl (fun _ => ?_) (fun _ => ?_) | (refine LT.part1 rfl rfl (fun h => ?_) (fun h => ?_); (fail_if_success exact absurd h (by decide)); rotate_left; (fail_if_success exact absurd h (by decide)); rotate_left))
        refine ⟨by first | exact .inl rfl | exact .inr rfl, _, (.cons (.tmp 4 (A := .val _) rfl (fun _ h => by cases h)) .nil), ?_, rfl⟩
        rw [h0]
        rfl
  · rw [if_neg h0]
    repeat' (first | refine CT.seqR ?_ | refine CT.region ?_ | refine CT.seq1 ?_ | refine CT.block ?_ | refine CT.condT rfl ?_ | refine CT.condF rfl ?_ | refine CT.condD rfl (fun _ => ?_) (fun _ => ?_) | refine CT.condN rfl (fun _ => ?_) (fun _ => ?_) | refine CT.cond rfl (fun _ => ?_) (fun _ => ?_) | refine CT.skip ?_ | refine CT.exit ?_ | refine CT.ret ?_ | refine LT.nil ?_ | refine HT.nil1 ?_ | (refine LT.consT ?_; (first | refine T.box (e := 116) (cs := [.val _, .val _, .val _]) rfl rfl (by decide) rfl rfl ?_)) | ((first | apply LT.cons1 | (apply LT.guard1; rfl; rfl; rfl; decide)); (first | exact OpH.callF Tryz.func84 rfl rfl rfl gC rfl | exact arm57_1); decide) | refine LT.skip1 rfl rfl rfl (by decide) (by decide) ?_ | refine LT.skip2 rfl rfl (by decide) (by decide) ?_ | refine LT.partD rfl rfl (fun _ => ?_) (fun _ => ?_) | refine LT.partN rfl rfl (fun _ => ?_) (fun _ => ?_) | (refine LT.part1 rfl rfl (fun h => ?_) (fun h => ?_); (fail_if_success exact absurd h (by decide)); rotate_left; (fail_if_success exact absurd h (by decide)); rotate_left))
    refine ⟨by first | exact .inl rfl | exact .inr rfl, _, (.cons (.tmp 4 (A := .val _) rfl (fun _ h => by cases h)) .nil), ?_, rfl⟩
    rfl
def rpRight (p : Pfx) : Bool := decide (0 ≤ p.len) && (decide (p.len ≤ 128) && allTo (fun i => decide ((i : Int) < p.len) || !abit p.a i) 128)
theorem arm92_1 {p : Prop} (h : p := by first | exact OpH.assign (v := .val _) rfl | exact OpH.assign (v := .sl _ _) rfl | exact OpH.assign (v := .row _ _ _ _) rfl | exact OpH.assign (v := .full _ _) rfl | exact OpH.assign (v := .ptr _ _) rfl | exact OpH.assign (v := .cptr _) rfl | exact OpH.assign (v := .cloB _ _) rfl | exact OpH.assign (v := .clo _ _) rfl | exact OpH.assign (v := .pr _) rfl | exact OpH.assign (v := .arow _) rfl | exact OpH.assign (v := .aptr _ _ _ _) rfl | exact OpH.assign (v := .asub _ _ _ _) rfl | exact OpH.assign (v := .tup _) rfl | exact OpH.move (v := .val _) rfl | exact OpH.move (v := .sl _ _) rfl | exact OpH.move (v := .row _ _ _ _) rfl | exact OpH.move (v := .full _ _) rfl | exact OpH.move (v := .ptr _ _) rfl | exact OpH.move (v := .cptr _) rfl | exact OpH.move (v := .cloB _ _) rfl | exact OpH.move (v := .clo _ _) rfl | exact OpH.move (v := .pr _) rfl | exact OpH.move (v := .arow _) rfl | exact OpH.move (v := .aptr _ _ _ _) rfl | exact OpH.move (v := .asub _ _ _ _) rfl | exact OpH.move (v := .tup _) rfl | exact OpH.bin rfl rfl (pb_neq_t (by first | omega | assumption)) | exact OpH.bin rfl rfl (pb_neq_f (by first | omega | assumption)) | exact OpH.bin rfl rfl (pb_neq) | exact OpH.pick (b := true) (v := .val _) rfl rfl | exact OpH.pick (b := false) (v := .val _) rfl rfl | exact OpH.pick (b := true) (v := .sl _ _) rfl rfl | exact OpH.pick (b := false) (v := .sl _ _) rfl rfl | exact OpH.pick (b := true) (v := .row _ _ _ _) rfl rfl | exact OpH.pick (b := false) (v := .row _ _ _ _) rfl rfl | exact OpH.pick (b := true) (v := .full _ _) rfl rfl | exact OpH.pick (b := false) (v := .full _ _) rfl rfl | exact OpH.pickV rfl rfl rfl | exact OpH.fieldC (s := 116) (f := 1) (off := 2) rfl (by kernel_rfl) rfl | exact OpH.fieldB (s := 116) (f := 1) (off := 2) rfl (by kernel_rfl) rfl | exact OpH.loadC1 (t := 3) rfl (by kernel_rfl) rfl | exact OpH.loadB1 (t := 3) rfl rfl (by kernel_rfl) rfl | exact OpH.bin rfl rfl (pb_lss_t (by omega)) | exact OpH.bin rfl rfl (pb_lss_f (by omega)) | exact OpH.bin rfl rfl (pb_lss) | exact OpH.bin rfl rfl (pb_gtr_t (by omega)) | exact OpH.bin rfl rfl (pb_gtr_f (by omega)) | exact OpH.bin rfl rfl (pb_gtr) | exact OpH.fieldC (s := 116) (f := 0) (off := 0) rfl (by kernel_rfl) rfl | exact OpH.fieldB (s := 116) (f := 0) (off := 0) rfl (by kernel_rfl) rfl | exact loadC2 (t := 24) rfl (by kernel_rfl) | exact loadB2 (t := 24) rfl rfl (by kernel_rfl) rfl | exact OpH.indexS (t := 172) (k := 1) rfl slP rfl rfl (by kernel_rfl) (map_at bd) rfl | exact OpH.loadC1 (t := 4) rfl (by kernel_rfl) rfl | exact OpH.loadB1 (t := 4) rfl rfl (by kernel_rfl) rfl | exact OpH.bin rfl rfl (pb_inc (by omega)) | exact OpH.bin rfl rfl (pb_addN rfl (by omega)) | exact OpH.bin rfl rfl (pb_add (by omega)) | exact OpH.bin rfl rfl (pb_addw)) : p := h
set_option maxRecDepth 100000 in
set_option maxHeartbeats 2000000 in
theorem g_r2Right (p : Pfx) (hp : p.a.ok) : Good Tryz.prog 92 [.val (.int .i64 128), .val (.agg #[.int .u64 p.a.x, .int .u64 p.a.y, .int .i64 p.len])] (.val (.bool (rpRight p))) := by
  have gp : Good Tryz.prog 121 [.val (.agg #[.int .u64 p.a.x, .int .u64 p.a.y])] (.row 0 4 1 ((bitsL (abit p.a)).map encB)) := g_Bits p.a.x p.a.y hp
  refine Good.of_body (T := [(0, _), (1, _)]) Tryz.func92 rfl rfl rfl ?_
  intro K0 w0 hno
  by_cases hlo : p.len < 0
  · have e : rpRight p = false := by unfold rpRight; rw [decide_eq_false (by omega), Bool.false_and]
    repeat' (first | refine CT.seqR ?_ | refine CT.region ?_ | refine CT.seq1 ?_ | refine CT.block ?_ | refine CT.condT rfl ?_ | refine CT.condF rfl ?_ | refine CT.condD rfl (fun _ => ?_) (fun _ => ?_) | refine CT.condN rfl (fun _ => ?_) (fun _ => ?_) | refine CT.cond rfl (fun _ => ?_) (fun _ => ?_) | refine CT.skip ?_ | refine CT.exit ?_ | refine CT.ret ?_ | refine LT.nil ?_ | refine HT.nil1 ?_ | (refine LT.consT ?_; (first | refine T.box (e := 116) (cs := [.val _, .val _, .val _]) rfl rfl (by decide) rfl rfl ?_)) | ((first | apply LT.cons1 | (apply LT.guard1; rfl; rfl; rfl; decide)); (first | exact arm92_1); decide) | refine LT.skip1 rfl rfl rfl (by decide) (by decide) ?_ | refine LT.skip2 rfl rfl (by decide) (by decide) ?_ | refine LT.partD rfl rfl (fun _ => ?_) (fun _ => ?_) | refine LT.partN rfl rfl (fun _ => ?_) (fun _ => ?_) | (refine LT.part1 rfl rfl (fun h => ?_) (fun h => ?_); (fail_if_success exact absurd h (by decide)); rotate_left; (fail_if_success exact absurd h (by decide)); rotate_left))
    refine ⟨by first | exact .inl rfl | exact .inr rfl, _, (.cons (.tmp 4 (A := .val _) rfl (fun _ h => by cases h)) .nil), ?_, rfl⟩
    rw [e]; rfl
  by_cases hhi : 128 < p.len
  · have e : rpRight p = false := by unfold rpRight; rw [decide_eq_false (by omega : ¬ p.len ≤ 128), Bool.false_and, Bool.and_false]
    repeat' (first | refine CT.seqR ?_ | refine CT.region ?_ | refine CT.seq1 ?_ | refine CT.block ?_ | refine CT.condT rfl ?_ | refine CT.condF rfl ?_ | refine CT.condD rfl (fun _ => ?_) (fun _ => ?_) | refine CT.condN rfl (fun _ => ?_) (fun _ => ?_) | refine CT.cond rfl (fun _ => ?_) (fun _ => ?_) | refine CT.skip ?_ | refine CT.exit ?_ | refine CT.ret ?_ | refine LT.nil ?_ | refine HT.nil1 ?_ | (refine LT.consT ?_; (first | refine T.box (e := 116) (cs := [.val _, .val _, .val _]) rfl rfl (by decide) rfl rfl ?_)) | ((first | apply LT.cons1 | (apply LT.guard1; rfl; rfl; rfl; decide)); (first | exact arm92_1); decide) | refine LT.skip1 rfl rfl rfl (by decide) (by decide) ?_ | refine LT.skip2 rfl rfl (by decide) (by decide) ?_ | refine LT.partD rfl rfl (fun _ => ?_) (fun _ => ?_) | refine LT.partN rfl rfl (fun _ => ?_) (fun _ => ?_) | (refine LT.part1 rfl rfl (fun h => ?_) (fun h => ?_); (fail_if_success exact absurd h (by decide)); rotate_left; (fail_if_success exact absurd h (by decide)); rotate_left))
    refine ⟨by first | exact .inl rfl | exact .inr rfl, _, (.cons (.tmp 4 (A := .val _) rfl (fun _ h => by cases h)) .nil), ?_, rfl⟩
    rw [e]; rfl
  obtain ⟨n, hn⟩ : ∃ n : Nat, p.len = n := ⟨p.len.toNat, by omega⟩
  have e : rpRight p = allTo (fun i => decide ((i : Int) < p.len) || !abit p.a i) 128 := by unfold rpRight; rw [decide_eq_true (by omega), decide_eq_true (by omega : p.len ≤ 128), Bool.true_and, Bool.true_and]
  repeat' (first | (refine LT.consT ?_; refine T.callRow Tryz.func121 rfl rfl rfl gp (by decide) rfl ?_) | refine CT.seqR ?_ | refine CT.region ?_ | refine CT.seq1 ?_ | refine CT.block ?_ | refine CT.condT rfl ?_ | refine CT.condF rfl ?_ | refine CT.condD rfl (fun _ => ?_) (fun _ => ?_) | refine CT.condN rfl (fun _ => ?_) (fun _ => ?_) | refine CT.cond rfl (fun _ => ?_) (fun _ => ?_) | refine CT.skip ?_ | refine CT.exit ?_ | refine CT.ret ?_ | refine LT.nil ?_ | refine HT.nil1 ?_ | (refine LT.consT ?_; (first | refine T.box (e := 116) (cs := [.val _, .val _, .val _]) rfl rfl (by decide) rfl rfl ?_)) | ((first | apply LT.cons1 | (apply LT.guard1; rfl; rfl; rfl; decide)); (first | exact arm92_1); decide) | refine LT.skip1 rfl rfl rfl (by decide) (by decide) ?_ | refine LT.skip2 rfl rfl (by decide) (by decide) ?_ | refine LT.partD rfl rfl (fun _ => ?_) (fun _ => ?_) | refine LT.partN rfl rfl (fun _ => ?_) (fun _ => ?_) | (refine LT.part1 rfl rfl (fun h => ?_) (fun h => ?_); (fail_if_success exact absurd h (by decide)); rotate_left; (fail_if_success exact absurd h (by decide)); rotate_left))
  refine CT.loopX (fun k : Nat => (⟨[(5, .row 5 4 1 ((bitsL (abit p.a)).map encB)), (6, .val (.int .i64 k))], [], []⟩ : St))
    (fun k => n ≤ k ∧ k ≤ 128 ∧ ∀ i, n ≤ i → i < k → abit p.a i = false) (fun k => 128 - k) n ?_ ⟨by omega, by omega, fun i h1 h2 => by omega⟩ ?_
  · rw [← hn]
    (apply Sub.mk; (focus (repeat (first | exact .nil | refine .other (.keep rfl rfl) ?_ | refine .other (.aref rfl rfl rfl) ?_ | refine .other (.val rfl (by first | rfl | (congr 1; first | omega | assumption | (symm; assumption)) | (simp; omega))) ?_ | refine .other .dead ?_ | refine .other (.sl rfl (.row _ _ _ _) rfl) ?_ | refine .other (.sl rfl (.sl _ _) rfl) ?_ | refine .other (.sl rfl (.full _ _) rfl) ?_ | refine .other (.slNil rfl rfl) ?_ | refine .rowNil rfl rfl rfl ?_ | refine .row rfl (by first | rfl | assumption | (rw [← List.map_append]; first | done | rfl | congr 1)) rfl rfl ?_))); (focus (repeat (first | exact .nil | refine KeepB.same rfl rfl rfl ?_ | refine KeepB.sameA rfl rfl rfl ?_))); (focus (repeat (first | exact .nil | refine KeepA.cons rfl (by first | rfl | assumption | exact List.map_set | exact List.map_set.symm | (rw [← List.map_append]; first | done | rfl | congr 1) | (congr 1; first | omega | assumption)) ?_))))
  rintro k ⟨h1, h2, h3⟩
  have hl1 := bitsL_len (abit p.a)
  by_cases hlt : k < 128
  · have hb : (bitsL (abit p.a))[k]'(by omega) = abit p.a k := bitsL_get _ (by omega) _
    repeat' (first | refine CT.seqR ?_ | refine CT.region ?_ | refine CT.seq1 ?_ | refine CT.block ?_ | refine CT.condT rfl ?_ | refine CT.condF rfl ?_ | refine CT.condD rfl (fun _ => ?_) (fun _ => ?_) | refine CT.condN rfl (fun _ => ?_) (fun _ => ?_) | refine CT.cond rfl (fun _ => ?_) (fun _ => ?_) | refine CT.skip ?_ | refine CT.exit ?_ | refine CT.ret ?_ | refine LT.nil ?_ | refine HT.nil1 ?_ | (refine LT.consT ?_; (first | refine T.box (e := 116) (cs := [.val _, .val _, .val _]) rfl rfl (by decide) rfl rfl ?_)) | ((first | apply LT.cons1 | (apply LT.guard1; rfl; rfl; rfl; decide)); (first | exact arm92_1); decide) | refine LT.skip1 rfl rfl rfl (by decide) (by decide) ?_ | refine LT.skip2 rfl rfl (by decide) (by decide) ?_ | refine LT.partD rfl rfl (fun _ => ?_) (fun _ => ?_) | refine LT.partN rfl rfl (fun _ => ?_) (fun _ => ?_) | (refine LT.part1 rfl rfl (fun h => ?_) (fun h => ?_); (fail_if_success exact absurd h (by decide)); rotate_left; (fail_if_success exact absurd h (by decide)); rotate_left))
    · refine ⟨by first | exact .inl rfl | exact .inr rfl, _, (.cons (.tmp 4 (A := .val _) rfl (fun _ h => by cases h)) .nil), ?_, rfl⟩
      rename_i ht
      rw [hb] at ht
      rw [e]
      cases hq : allTo (fun i => decide ((i : Int) < p.len) || !abit p.a i) 128 with
      | false => rfl
      | true =>
        have := (allTo_iff _ _).1 hq k hlt
        rw [ht, decide_eq_false (by omega)] at this
        cases this
    · rename_i hf
      rw [hb] at hf
      refine ⟨k + 1, ⟨by omega, by omega, fun i h4 h5 => ?_⟩, by omega, ?_⟩
      · by_cases e2 : i = k
        · rw [e2]; exact hf
        · exact h3 i h4 (by omega)
      · (apply Sub.mk; (focus (repeat (first | exact .nil | refine .other (.keep rfl rfl) ?_ | refine .other (.aref rfl rfl rfl) ?_ | refine .other (.val rfl (by first | rfl | (congr 1; first | omega | assumption | (symm; assumption)) | (simp; omega))) ?_ | refine .other .dead ?_ | refine .other (.sl rfl (.row _ _ _ _) rfl) ?_ | refine .other (.sl rfl (.sl _ _) rfl) ?_ | refine .other (.sl rfl (.full _ _) rfl) ?_ | refine .other (.slNil rfl rfl) ?_ | refine .rowNil rfl rfl rfl ?_ | refine .row rfl (by first | rfl | assumption | (rw [← List.map_append]; first | done | rfl | congr 1)) rfl rfl ?_))); (focus (repeat (first | exact .nil | refine KeepB.same rfl rfl rfl ?_ | refine KeepB.sameA rfl rfl rfl ?_))); (focus (repeat (first | exact .nil | refine KeepA.cons rfl (by first | rfl | assumption | exact List.map_set | exact List.map_set.symm | (rw [← List.map_append]; first | done | rfl | congr 1) | (congr 1; first | omega | assumption)) ?_))))
  · obtain rfl : k = 128 := by omega
    repeat' (first | refine CT.seqR ?_ | refine CT.region ?_ | refine CT.seq1 ?_ | refine CT.block ?_ | refine CT.condT rfl ?_ | refine CT.condF rfl ?_ | refine CT.condD rfl (fun _ => ?_) (fun _ => ?_) | refine CT.condN rfl (fun _ => ?_) (fun _ => ?_) | refine CT.cond rfl (fun _ => ?_) (fun _ => ?_) | refine CT.skip ?_ | refine CT.exit ?_ | refine CT.ret ?_ | refine LT.nil ?_ | refine HT.nil1 ?_ | (refine LT.consT ?_; (first | refine T.box (e := 116) (cs := [.val _, .val _, .val _]) rfl rfl (by decide) rfl rfl ?_)) | ((first | apply LT.cons1 | (apply LT.guard1; rfl; rfl; rfl; decide)); (first | exact arm92_1); decide) | refine LT.skip1 rfl rfl rfl (by decide) (by decide) ?_ | refine LT.skip2 rfl rfl (by decide) (by decide) ?_ | refine LT.partD rfl rfl (fun _ => ?_) (fun _ => ?_) | refine LT.partN rfl rfl (fun _ => ?_) (fun _ => ?_) | (refine LT.part1 rfl rfl (fun h => ?_) (fun h => ?_); (fail_if_success exact absurd h (by decide)); rotate_left; (fail_if_success exact absurd h (by decide)); rotate_left))
    refine ⟨by first | exact .inl rfl | exact .inr rfl, _, (.cons (.tmp 4 (A := .val _) rfl (fun _ h => by cases h)) .nil), ?_, rfl⟩
    have : allTo (fun i => decide ((i : Int) < p.len) || !abit p.a i) 128 = true := (allTo_iff _ _).2 fun i hi => by
      by_cases c : (i : Int) < p.len
      · rw [decide_eq_true c]; rfl
      · rw [h3 i (by omega) hi]; simp
    rw [e, this]
    rfl
end Go.Proofs.YtjmnnkhdadoehaaGreat

/- Tables of routes: law06.Of, ref06.Right, ref06.Table, law09.Table. -/
namespace Go.Proofs.YtjmnnkhdadoehaaGreat
set_option linter.unusedSimpArgs false
set_option linter.unusedVariables false
open Go Go.RowKit Go.Shelf
def rrRight (r : Rte) : Bool := rpRight r.p && (decide (1 ≤ r.act) && decide (r.act ≤ 255))
theorem right_canon {p : Pfx} (hp : p.a.ok) : rpRight p = true ↔ Canon p := by
  unfold rpRight
  rw [Bool.and_eq_true, Bool.and_eq_true, decide_eq_true_eq, decide_eq_true_eq, allTo_iff]
  constructor
  · rintro ⟨h1, h2, h3⟩
    refine ⟨h1, h2, hp, fun i hi hle => ?_⟩
    have := h3 i hi
    rw [decide_eq_false (by omega), Bool.false_or] at this
    simpa using this
  · rintro ⟨h1, h2, _, h3⟩
    refine ⟨h1, h2, fun i hi => ?_⟩
    by_cases c : (i : Int) < p.len
    · rw [decide_eq_true c]; rfl
    · rw [h3 i hi (by omega)]; simp
theorem rrRight_iff {r : Rte} (hp : r.p.a.ok) : rrRight r = true ↔ Canon r.p ∧ 1 ≤ r.act ∧ r.act ≤ 255 := by
  unfold rrRight
  rw [Bool.and_eq_true, Bool.and_eq_true, decide_eq_true_eq, decide_eq_true_eq, right_canon hp]
def TabTo (rs : List Rte) (k : Nat) : Prop := ∀ (i : Nat) (hi : i < rs.length), i < k → rrRight rs[i] = true ∧ ∀ h0 : 0 < i, pLt (rs[i - 1]'(by omega)).p rs[i].p
theorem TabTo.start (rs : List Rte) : TabTo rs 0 := fun i hi h => by omega
theorem TabTo.step {rs : List Rte} {k : Nat} (h : TabTo rs k) (hk : k < rs.length) (h1 : rrRight rs[k] = true) (h2 : ∀ h0 : 0 < k, pLt (rs[k - 1]'(by omega)).p rs[k].p) : TabTo rs (k + 1) := fun i hi hik => by
  by_cases e : i = k
  · subst e; exact ⟨h1, h2⟩
  · exact h i hi (by omega)
theorem TabTo.table {rs : List Rte} (hok : ∀ r ∈ rs, r.p.a.ok) : TabTo rs rs.length ↔ TableR rs := by
  constructor
  · intro h
    refine ⟨fun r hr => ?_, fun r hr => ?_, ?_⟩
    · obtain ⟨i, hi, rfl⟩ := List.mem_iff_getElem.1 hr
      exact ((rrRight_iff (hok _ hr)).1 (h i hi hi).1).1
    · obtain ⟨i, hi, rfl⟩ := List.mem_iff_getElem.1 hr
      exact ((rrRight_iff (hok _ hr)).1 (h i hi hi).1).2
    · refine List.pairwise_iff_getElem.2 fun i j hi hj hij => ?_
      suffices H : ∀ d (hd : i + 1 + d < rs.length), pLt rs[i].p (rs[i + 1 + d]).p by
        have := H (j - i - 1) (by omega)
        simpa only [show i + 1 + (j - i - 1) = j by omega] using this
      intro d
      induction d with
      | zero =>
        intro hd
        have := (h (i + 1) hd hd).2 (by omega)
        simpa using this
      | succ d ih =>
        intro hd
        have h1 := ih (by omega)
        have h2 := (h (i + 1 + (d + 1)) hd hd).2 (by omega)
        exact h1.trans h2
  · intro h i hi _
    refine ⟨(rrRight_iff (hok _ (List.getElem_mem hi))).2 ⟨h.canon _ (List.getElem_mem hi), h.act _ (List.getElem_mem hi)⟩, fun h0 => ?_⟩
    exact (List.pairwise_iff_getElem.1 h.sorted) (i - 1) i (by omega) hi (by omega)
theorem lenR (x : Rte) : (encR x).length = 4 := rfl
theorem oneR (x : Rte) : ∀ u ∈ encR x, u.oneCell' = true := by
  intro u hu
  simp only [encR, List.mem_cons, List.not_mem_nil, or_false] at hu
  rcases hu with rfl | rfl | rfl | rfl <;> rfl
attribute [local irreducible] OpH OpT LT CT HT Good
theorem arm93_1 {p : Prop} (h : p := by first | exact OpH.fieldC (s := 65) (f := 0) (off := 0) rfl (by kernel_rfl) rfl | exact OpH.fieldB (s := 65) (f := 0) (off := 0) rfl (by kernel_rfl) rfl | exact loadC2 (t := 25) rfl (by kernel_rfl) | exact loadB2 (t := 25) rfl rfl (by kernel_rfl) rfl | exact OpH.fieldC (s := 65) (f := 1) (off := 2) rfl (by kernel_rfl) rfl | exact OpH.fieldB (s := 65) (f := 1) (off := 2) rfl (by kernel_rfl) rfl | exact OpH.loadC1 (t := 3) rfl (by kernel_rfl) rfl | exact OpH.loadB1 (t := 3) rfl rfl (by kernel_rfl) rfl | exact build_116_0_1 rfl rfl | exact OpH.build (t := 116) (cells := #[_, _, _]) (by kernel_rfl) rfl) : p := h
set_option maxRecDepth 100000 in
set_option maxHeartbeats 2000000 in
theorem g_law2Of (p : Pfx) : Good Tryz.prog 93 [.val (.agg #[.int .u64 p.a.x, .int .u64 p.a.y, .int .i64 p.len])] (.val (.agg #[.int .u64 p.a.x, .int .u64 p.a.y, .int .i64 p.len])) := by
  refine Good.of_body (T := [(0, _)]) Tryz.func93 rfl rfl rfl ?_
  intro K0 w0 hno
  repeat' (first | refine CT.seqR ?_ | refine CT.region ?_ | refine CT.seq1 ?_ | refine CT.block ?_ | refine CT.condT rfl ?_ | refine CT.condF rfl ?_ | refine CT.condD rfl (fun _ => ?_) (fun _ => ?_) | refine CT.condN rfl (fun _ => ?_) (fun _ => ?_) | refine CT.cond rfl (fun _ => ?_) (fun _ => ?_) | refine CT.skip ?_ | refine CT.exit ?_ | refine CT.ret ?_ | refine LT.nil ?_ | refine HT.nil1 ?_ | (refine LT.consT ?_; (first | refine T.box (e := 65) (cs := [.val _, .val _, .val _]) rfl rfl (by decide) rfl rfl ?_ | refine T.alloc (e := 116) (z := .agg #[.int .u64 0, .int .u64 0, .int .i64 0]) (cs := [.val (.int .u64 0), .val (.int .u64 0), .val (.int .i64 0)]) (by kernel_rfl) rfl (by decide) rfl rfl ?_ | refine T.store (t := 116) rfl rfl rfl (by kernel_rfl) (by kernel_rfl) (Nat.le_of_ble_eq_true (by kernel_rfl)) rfl rfl ?_)) | (apply LT.cons1; (first | exact OpH.build (t := 116) (cells := #[.int .u64 p.a.x, .int .u64 p.a.y, .int .i64 p.len]) (by kernel_rfl) (by kernel_rfl) | exact arm93_1); decide))
  refine ⟨by first | exact .inl rfl | exact .inr rfl, _, (.cons (.many 2 (vs := [_, _, _]) rfl rfl (by kernel_rfl) rfl rfl) .nil), ?_, rfl⟩
  rfl
theorem arm58_1 {p : Prop} (h : p := by first | exact OpH.fieldC (s := 67) (f := 0) (off := 0) rfl (by kernel_rfl) rfl | exact OpH.fieldB (s := 67) (f := 0) (off := 0) rfl (by kernel_rfl) rfl | exact loadC3 (t := 65) rfl (by kernel_rfl) | exact loadB3 (t := 65) rfl rfl (by kernel_rfl) rfl | exact OpH.fieldC (s := 67) (f := 1) (off := 3) rfl (by kernel_rfl) rfl | exact OpH.fieldB (s := 67) (f := 1) (off := 3) rfl (by kernel_rfl) rfl | exact OpH.loadC1 (t := 3) rfl (by kernel_rfl) rfl | exact OpH.loadB1 (t := 3) rfl rfl (by kernel_rfl) rfl | exact build_118_0_1 rfl rfl | exact OpH.build (t := 118) (cells := #[_, _, _, _]) (by kernel_rfl) rfl) : p := h
set_option maxRecDepth 100000 in
set_option maxHeartbeats 2000000 in
theorem g_law6One (r : Rte) : Good Tryz.prog 58 [.val (.agg #[.int .u64 r.p.a.x, .int .u64 r.p.a.y, .int .i64 r.p.len, .int .i64 r.act])] (.val (.agg #[.int .u64 r.p.a.x, .int .u64 r.p.a.y, .int .i64 r.p.len, .int .i64 r.act])) := by
  refine Good.of_body (T := [(0, _)]) Tryz.func58 rfl rfl rfl ?_
  intro K0 w0 hno
  repeat' (first | refine CT.seqR ?_ | refine CT.seqD (id := 1) 6 (by kernel_rfl) (by kernel_rfl) ?_ | refine CT.draw (id := 1) 6 (by kernel_rfl) (by kernel_rfl) ?_ | refine CT.region ?_ | refine CT.seq1 ?_ | refine CT.block ?_ | refine CT.condT rfl ?_ | refine CT.condF rfl ?_ | refine CT.condD rfl (fun _ => ?_) (fun _ => ?_) | refine CT.condN rfl (fun _ => ?_) (fun _ => ?_) | refine CT.cond rfl (fun _ => ?_) (fun _ => ?_) | refine CT.skip ?_ | refine CT.exit ?_ | refine CT.ret ?_ | refine LT.nil ?_ | refine HT.nil1 ?_ | (refine LT.consT ?_; (first | refine T.box (e := 67) (cs := [.val _, .val _, .val _, .val _]) rfl rfl (by decide) rfl rfl ?_ | refine T.alloc (e := 118) (z := .agg #[.int .u64 0, .int .u64 0, .int .i64 0, .int .i64 0]) (cs := [.val (.int .u64 0), .val (.int .u64 0), .val (.int .i64 0), .val (.int .i64 0)]) (by kernel_rfl) rfl (by decide) rfl rfl ?_ | refine T.store (t := 118) rfl rfl rfl (by kernel_rfl) (by kernel_rfl) (Nat.le_of_ble_eq_true (by kernel_rfl)) rfl rfl ?_)) | ((first | apply LT.cons1 | apply HT.cons1); (first | exact OpH.callF Tryz.func93 rfl rfl rfl (g_law2Of r.p) rfl | exact OpH.build (t := 118) (cells := #[.int .u64 r.p.a.x, .int .u64 r.p.a.y, .int .i64 r.p.len, .int .i64 r.act]) (by kernel_rfl) (by kernel_rfl) | exact arm58_1); (try decide)))
  refine ⟨by first | exact .inl rfl | exact .inr rfl, _, (.cons (.many 2 (vs := [_, _, _, _]) rfl rfl (by kernel_rfl) rfl rfl) .nil), ?_, rfl⟩
  rfl
theorem arm29_1 {p : Prop} (h : p := by first | exact OpH.assign (v := .val _) rfl | exact OpH.assign (v := .sl _ _) rfl | exact OpH.assign (v := .row _ _ _ _) rfl | exact OpH.assign (v := .full _ _) rfl | exact OpH.assign (v := .ptr _ _) rfl | exact OpH.assign (v := .cptr _) rfl | exact OpH.assign (v := .cloB _ _) rfl | exact OpH.assign (v := .clo _ _) rfl | exact OpH.assign (v := .pr _) rfl | exact OpH.assign (v := .arow _) rfl | exact OpH.assign (v := .aptr _ _ _ _) rfl | exact OpH.assign (v := .asub _ _ _ _) rfl | exact OpH.assign (v := .tup _) rfl | exact OpH.move (v := .val _) rfl | exact OpH.move (v := .sl _ _) rfl | exact OpH.move (v := .row _ _ _ _) rfl | exact OpH.move (v := .full _ _) rfl | exact OpH.move (v := .ptr _ _) rfl | exact OpH.move (v := .cptr _) rfl | exact OpH.move (v := .cloB _ _) rfl | exact OpH.move (v := .clo _ _) rfl | exact OpH.move (v := .pr _) rfl | exact OpH.move (v := .arow _) rfl | exact OpH.move (v := .aptr _ _ _ _) rfl | exact OpH.move (v := .asub _ _ _ _) rfl | exact OpH.move (v := .tup _) rfl | exact OpH.lenM (t := 22) rfl (.sl _ _) (by kernel_rfl) | exact OpH.lenM (t := 22) rfl (.row _ _ _ _) (by kernel_rfl) | exact OpH.lenM (t := 22) rfl (.full _ _) (by kernel_rfl) | exact OpH.len (t := 22) rfl slP (by kernel_rfl) | exact OpH.lenNil (t := 22) rfl (by kernel_rfl) | exact OpH.bin rfl rfl (pb_lss_t (by omega)) | exact OpH.bin rfl rfl (pb_lss_f (by omega)) | exact OpH.bin rfl rfl (pb_lss) | exact OpH.indexS (t := 22) (k := 4) rfl slP rfl rfl (by kernel_rfl) (map_at bd) rfl | exact loadC4 (t := 67) rfl (by kernel_rfl) | exact loadB4 (t := 67) rfl rfl (by kernel_rfl) rfl | exact lit_77_1 rfl | exact OpH.bin rfl rfl (pb_inc (by omega)) | exact OpH.bin rfl rfl (pb_addN rfl (by omega)) | exact OpH.bin rfl rfl (pb_add (by omega)) | exact OpH.bin rfl rfl (pb_addw)) : p := h
set_option maxRecDepth 100000 in
set_option maxHeartbeats 2000000 in
theorem g_law6Of (rs : List Rte) (hl : rs.length ≤ 4096) : Good Tryz.prog 29 [.sl 4 (rs.map encR)] (.row 3 118 4 (rs.map encR)) := by
  refine Good.of_body (T := [(0, _)]) Tryz.func29 rfl rfl rfl ?_
  intro K0 w0 hno
  repeat' (first | refine CT.seqR ?_ | refine CT.region ?_ | refine CT.seq1 ?_ | refine CT.block ?_ | refine CT.condT rfl ?_ | refine CT.condF rfl ?_ | refine CT.condD rfl (fun _ => ?_) (fun _ => ?_) | refine CT.condN rfl (fun _ => ?_) (fun _ => ?_) | refine CT.cond rfl (fun _ => ?_) (fun _ => ?_) | refine CT.skip ?_ | refine CT.exit ?_ | refine CT.ret ?_ | refine LT.nil ?_ | refine HT.nil1 ?_ | (refine LT.consT ?_; (first | refine T.alloc (e := 67) (z := .agg #[.int .u64 0, .int .u64 0, .int .i64 0, .int .i64 0]) (cs := [.val (.int .u64 0), .val (.int .u64 0), .val (.int .i64 0), .val (.int .i64 0)]) (by kernel_rfl) rfl (by decide) rfl rfl ?_ | refine T.store (t := 67) rfl rfl rfl (by kernel_rfl) (by kernel_rfl) (Nat.le_of_ble_eq_true (by kernel_rfl)) rfl rfl ?_ | refine T.appNil (t := 77) (e := 118) (k := 4) (bytes := 32) rfl rfl srP (by kernel_rfl) szP (by decide) rfl ?_ | refine T.app (t := 77) (e := 118) (k := 4) (bytes := 32) rfl rfl srP (by kernel_rfl) szP (by decide) rfl rfl ?_)) | (apply LT.cons1; (first | exact arm29_1); decide))
  refine CT.loopX (fun k : Nat => (⟨[(3, .row 3 118 4 ((rs.take k).map encR)), (6, .sl 4 (rs.map encR)), (7, .val (.int .i64 rs.length)), (8, .val (.int .i64 k))], [], []⟩ : St))
    (fun k => k ≤ rs.length) (fun k => rs.length - k) 0 ?_ (by omega) ?_
  · rw [List.take_zero]
    (apply Sub.mk; (focus (repeat (first | exact .nil | refine .other (.keep rfl rfl) ?_ | refine .other (.aref rfl rfl rfl) ?_ | refine .other (.val rfl (by first | rfl | (congr 1; first | omega | assumption | (symm; assumption)) | (simp; omega))) ?_ | refine .other .dead ?_ | refine .other (.sl rfl (.row _ _ _ _) rfl) ?_ | refine .other (.sl rfl (.sl _ _) rfl) ?_ | refine .other (.sl rfl (.full _ _) rfl) ?_ | refine .other (.slNil rfl rfl) ?_ | refine .rowNil rfl rfl rfl ?_ | refine .row rfl (by first | rfl | assumption | (rw [← List.map_append]; first | done | rfl | congr 1)) rfl rfl ?_))); (focus (repeat (first | exact .nil | refine KeepB.same rfl rfl rfl ?_ | refine KeepB.sameA rfl rfl rfl ?_))); (focus (repeat (first | exact .nil | refine KeepA.cons rfl (by first | rfl | assumption | exact List.map_set | exact List.map_set.symm | (rw [← List.map_append]; first | done | rfl | congr 1) | (congr 1; first | omega | assumption)) ?_))))
  rintro k hk
  by_cases hlt : k < rs.length
  · have hkl : (rs.take k).length = k := by rw [List.length_take]; omega
    repeat' (first | refine CT.seqR ?_ | refine CT.region ?_ | refine CT.seq1 ?_ | refine CT.block ?_ | refine CT.condT rfl ?_ | refine CT.condF rfl ?_ | refine CT.condD rfl (fun _ => ?_) (fun _ => ?_) | refine CT.condN rfl (fun _ => ?_) (fun _ => ?_) | refine CT.cond rfl (fun _ => ?_) (fun _ => ?_) | refine CT.skip ?_ | refine CT.exit ?_ | refine CT.ret ?_ | refine LT.nil ?_ | refine HT.nil1 ?_ | (refine LT.consT ?_; (first | refine T.alloc (e := 67) (z := .agg #[.int .u64 0, .int .u64 0, .int .i64 0, .int .i64 0]) (cs := [.val (.int .u64 0), .val (.int .u64 0), .val (.int .i64 0), .val (.int .i64 0)]) (by kernel_rfl) rfl (by decide) rfl rfl ?_ | refine T.store (t := 67) rfl rfl rfl (by kernel_rfl) (by kernel_rfl) (Nat.le_of_ble_eq_true (by kernel_rfl)) rfl rfl ?_ | refine T.appNil (t := 77) (e := 118) (k := 4) (bytes := 32) rfl rfl srP (by kernel_rfl) szP (by decide) rfl ?_ | refine T.app (t := 77) (e := 118) (k := 4) (bytes := 32) rfl rfl srP (by kernel_rfl) szP (by decide) rfl rfl ?_)) | (apply LT.cons1; (first | exact OpH.callF Tryz.func58 rfl rfl rfl (g_law6One rs[k]) rfl | exact arm29_1); decide))
    refine ⟨k + 1, by omega, by omega, ?_⟩
    rw [List.take_succ_eq_append_getElem hlt]
    (apply Sub.mk; (focus (repeat (first | exact .nil | refine .other (.keep rfl rfl) ?_ | refine .other (.aref rfl rfl rfl) ?_ | refine .other (.val rfl (by first | rfl | (congr 1; first | omega | assumption | (symm; assumption)) | (simp; omega))) ?_ | refine .other .dead ?_ | refine .other (.sl rfl (.row _ _ _ _) rfl) ?_ | refine .other (.sl rfl (.sl _ _) rfl) ?_ | refine .other (.sl rfl (.full _ _) rfl) ?_ | refine .other (.slNil rfl rfl) ?_ | refine .rowNil rfl rfl rfl ?_ | refine .row rfl (by first | rfl | assumption | (rw [← List.map_append]; first | done | rfl | congr 1)) rfl rfl ?_))); (focus (repeat (first | exact .nil | refine KeepB.same rfl rfl rfl ?_ | refine KeepB.sameA rfl rfl rfl ?_))); (focus (repeat (first | exact .nil | refine KeepA.cons rfl (by first | rfl | assumption | exact List.map_set | exact List.map_set.symm | (rw [← List.map_append]; first | done | rfl | congr 1) | (congr 1; first | omega | assumption)) ?_))))
  · obtain rfl : k = rs.length := by omega
    repeat' (first | refine CT.seqR ?_ | refine CT.region ?_ | refine CT.seq1 ?_ | refine CT.block ?_ | refine CT.condT rfl ?_ | refine CT.condF rfl ?_ | refine CT.condD rfl (fun _ => ?_) (fun _ => ?_) | refine CT.condN rfl (fun _ => ?_) (fun _ => ?_) | refine CT.cond rfl (fun _ => ?_) (fun _ => ?_) | refine CT.skip ?_ | refine CT.exit ?_ | refine CT.ret ?_ | refine LT.nil ?_ | refine HT.nil1 ?_ | (refine LT.consT ?_; (first | refine T.alloc (e := 67) (z := .agg #[.int .u64 0, .int .u64 0, .int .i64 0, .int .i64 0]) (cs := [.val (.int .u64 0), .val (.int .u64 0), .val (.int .i64 0), .val (.int .i64 0)]) (by kernel_rfl) rfl (by decide) rfl rfl ?_ | refine T.store (t := 67) rfl rfl rfl (by kernel_rfl) (by kernel_rfl) (Nat.le_of_ble_eq_true (by kernel_rfl)) rfl rfl ?_ | refine T.appNil (t := 77) (e := 118) (k := 4) (bytes := 32) rfl rfl srP (by kernel_rfl) szP (by decide) rfl ?_ | refine T.app (t := 77) (e := 118) (k := 4) (bytes := 32) rfl rfl srP (by kernel_rfl) szP (by decide) rfl rfl ?_)) | (apply LT.cons1; (first | exact arm29_1); decide))
    refine ⟨by first | exact .inl rfl | exact .inr rfl, _, (.cons (.tmp 2 (A := .row _ _ _ _) rfl (fun _ h => by cases h)) .nil), ?_, rfl⟩
    rw [List.take_length]
    rfl
theorem arm56_1 {p : Prop} (h : p := by first | exact OpH.assign (v := .val _) rfl | exact OpH.assign (v := .sl _ _) rfl | exact OpH.assign (v := .row _ _ _ _) rfl | exact OpH.assign (v := .full _ _) rfl | exact OpH.assign (v := .ptr _ _) rfl | exact OpH.assign (v := .cptr _) rfl | exact OpH.assign (v := .cloB _ _) rfl | exact OpH.assign (v := .clo _ _) rfl | exact OpH.assign (v := .pr _) rfl | exact OpH.assign (v := .arow _) rfl | exact OpH.assign (v := .aptr _ _ _ _) rfl | exact OpH.assign (v := .asub _ _ _ _) rfl | exact OpH.assign (v := .tup _) rfl | exact OpH.move (v := .val _) rfl | exact OpH.move (v := .sl _ _) rfl | exact OpH.move (v := .row _ _ _ _) rfl | exact OpH.move (v := .full _ _) rfl | exact OpH.move (v := .ptr _ _) rfl | exact OpH.move (v := .cptr _) rfl | exact OpH.move (v := .cloB _ _) rfl | exact OpH.move (v := .clo _ _) rfl | exact OpH.move (v := .pr _) rfl | exact OpH.move (v := .arow _) rfl | exact OpH.move (v := .aptr _ _ _ _) rfl | exact OpH.move (v := .asub _ _ _ _) rfl | exact OpH.move (v := .tup _) rfl | exact OpH.fieldC (s := 118) (f := 0) (off := 0) rfl (by kernel_rfl) rfl | exact OpH.fieldB (s := 118) (f := 0) (off := 0) rfl (by kernel_rfl) rfl | exact loadC3 (t := 116) rfl (by kernel_rfl) | exact loadB3 (t := 116) rfl rfl (by kernel_rfl) rfl | exact OpH.fieldC (s := 118) (f := 1) (off := 3) rfl (by kernel_rfl) rfl | exact OpH.fieldB (s := 118) (f := 1) (off := 3) rfl (by kernel_rfl) rfl | exact OpH.loadC1 (t := 3) rfl (by kernel_rfl) rfl | exact OpH.loadB1 (t := 3) rfl rfl (by kernel_rfl) rfl | exact OpH.bin rfl rfl (pb_geq_t (by omega)) | exact OpH.bin rfl rfl (pb_geq_f (by omega)) | exact OpH.bin rfl rfl (pb_geq) | exact OpH.pick (b := true) (v := .val _) rfl rfl | exact OpH.pick (b := false) (v := .val _) rfl rfl | exact OpH.pick (b := true) (v := .sl _ _) rfl rfl | exact OpH.pick (b := false) (v := .sl _ _) rfl rfl | exact OpH.pick (b := true) (v := .row _ _ _ _) rfl rfl | exact OpH.pick (b := false) (v := .row _ _ _ _) rfl rfl | exact OpH.pick (b := true) (v := .full _ _) rfl rfl | exact OpH.pick (b := false) (v := .full _ _) rfl rfl | exact OpH.pickV rfl rfl rfl | exact OpH.bin rfl rfl (pb_leq_t (by omega)) | exact OpH.bin rfl rfl (pb_leq_f (by omega)) | exact OpH.bin rfl rfl (pb_leq)) : p := h
set_option maxRecDepth 100000 in
set_option maxHeartbeats 2000000 in
theorem g_r6Right (r : Rte) (hp : r.p.a.ok) : Good Tryz.prog 56 [.val (.int .i64 128), .val (.agg #[.int .u64 r.p.a.x, .int .u64 r.p.a.y, .int .i64 r.p.len, .int .i64 r.act])] (.val (.bool (rrRight r))) := by
  have gR := g_r2Right r.p hp
  unfold rrRight
  refine Good.of_body (T := [(0, _), (1, _)]) Tryz.func56 rfl rfl rfl ?_
  intro K0 w0 hno
  cases hb : rpRight r.p with
  | false =>
    rw [hb] at gR
    repeat' (first | refine CT.seqR ?_ | refine CT.region ?_ | refine CT.seq1 ?_ | refine CT.block ?_ | refine CT.condT rfl ?_ | refine CT.condF rfl ?_ | refine CT.condD rfl (fun _ => ?_) (fun _ => ?_) | refine CT.condN rfl (fun _ => ?_) (fun _ => ?_) | refine CT.cond rfl (fun _ => ?_) (fun _ => ?_) | refine CT.skip ?_ | refine CT.exit ?_ | refine CT.ret ?_ | refine LT.nil ?_ | refine HT.nil1 ?_ | (refine LT.consT ?_; (first | refine T.box (e := 118) (cs := [.val _, .val _, .val _, .val _]) rfl rfl (by decide) rfl rfl ?_)) | ((first | apply LT.cons1 | (apply LT.guard1; rfl; rfl; rfl; decide)); (first | exact OpH.callF Tryz.func92 rfl rfl rfl gR rfl | exact arm56_1); decide) | refine LT.skip1 rfl rfl rfl (by decide) (by decide) ?_ | refine LT.skip2 rfl rfl (by decide) (by decide) ?_ | refine LT.partD rfl rfl (fun _ => ?_) (fun _ => ?_) | refine LT.partN rfl rfl (fun _ => ?_) (fun _ => ?_) | (refine LT.part1 rfl rfl (fun h => ?_) (fun h => ?_); (fail_if_success exact absurd h (by decide)); rotate_left; (fail_if_success exact absurd h (by decide)); rotate_left))
    refine ⟨by first | exact .inl rfl | exact .inr rfl, _, (.cons (.tmp 4 (A := .val _) rfl (fun _ h => by cases h)) .nil), ?_, rfl⟩
    rfl
  | true =>
    rw [hb] at gR
    by_cases h1 : 1 ≤ r.act
    · by_cases h2 : r.act ≤ 255
      · repeat' (first | refine CT.seqR ?_ | refine CT.region ?_ | refine CT.seq1 ?_ | refine CT.block ?_ | refine CT.condT rfl ?_ | refine CT.condF rfl ?_ | refine CT.condD rfl (fun _ => ?_) (fun _ => ?_) | refine CT.condN rfl (fun _ => ?_) (fun _ => ?_) | refine CT.cond rfl (fun _ => ?_) (fun _ => ?_) | refine CT.skip ?_ | refine CT.exit ?_ | refine CT.ret ?_ | refine LT.nil ?_ | refine HT.nil1 ?_ | (refine LT.consT ?_; (first | refine T.box (e := 118) (cs := [.val _, .val _, .val _, .val _]) rfl rfl (by decide) rfl rfl ?_)) | ((first | apply LT.cons1 | (apply LT.guard1; rfl; rfl; rfl; decide)); (first | exact OpH.callF Tryz.func92 rfl rfl rfl gR rfl | exact arm56_1); decide) | refine LT.skip1 rfl rfl rfl (by decide) (by decide) ?_ | refine LT.skip2 rfl rfl (by decide) (by decide) ?_ | refine LT.partD rfl rfl (fun _ => ?_) (fun _ => ?_) | refine LT.partN rfl rfl (fun _ => ?_) (fun _ => ?_) | (refine LT.part1 rfl rfl (fun h => ?_) (fun h => ?_); (fail_if_success exact absurd h (by decide)); rotate_left; (fail_if_success exact absurd h (by decide)); rotate_left))
        refine ⟨by first | exact .inl rfl | exact .inr rfl, _, (.cons (.tmp 4 (A := .val _) rfl (fun _ h => by cases h)) .nil), ?_, rfl⟩
        simp [h1, h2, retsV]
      · repeat' (first | refine CT.seqR ?_ | refine CT.region ?_ | refine CT.seq1 ?_ | refine CT.block ?_ | refine CT.condT rfl ?_ | refine CT.condF rfl ?_ | refine CT.condD rfl (fun _ => ?_) (fun _ => ?_) | refine CT.condN rfl (fun _ => ?_) (fun _ => ?_) | refine CT.cond rfl (fun _ => ?_) (fun _ => ?_) | refine CT.skip ?_ | refine CT.exit ?_ | refine CT.ret ?_ | refine LT.nil ?_ | refine HT.nil1 ?_ | (refine LT.consT ?_; (first | refine T.box (e := 118) (cs := [.val _, .val _, .val _, .val _]) rfl rfl (by decide) rfl rfl ?_)) | ((first | apply LT.cons1 | (apply LT.guard1; rfl; rfl; rfl; decide)); (first | exact OpH.callF Tryz.func92 rfl rfl rfl gR rfl | exact arm56_1); decide) | refine LT.skip1 rfl rfl rfl (by decide) (by decide) ?_ | refine LT.skip2 rfl rfl (by decide) (by decide) ?_ | refine LT.partD rfl rfl (fun _ => ?_) (fun _ => ?_) | refine LT.partN rfl rfl (fun _ => ?_) (fun _ => ?_) | (refine LT.part1 rfl rfl (fun h => ?_) (fun h => ?_); (fail_if_success exact absurd h (by decide)); rotate_left; (fail_if_success exact absurd h (by decide)); rotate_left))
        refine ⟨by first | exact .inl rfl | exact .inr rfl, _, (.cons (.tmp 4 (A := .val _) rfl (fun _ h => by cases h)) .nil), ?_, rfl⟩
        simp [h1, h2, retsV]
    · repeat' (first | refine CT.seqR ?_ | refine CT.region ?_ | refine CT.seq1 ?_ | refine CT.block ?_ | refine CT.condT rfl ?_ | refine CT.condF rfl ?_ | refine CT.condD rfl (fun _ => ?_) (fun _ => ?_) | refine CT.condN rfl (fun _ => ?_) (fun _ => ?_) | refine CT.cond rfl (fun _ => ?_) (fun _ => ?_) | refine CT.skip ?_ | refine CT.exit ?_ | refine CT.ret ?_ | refine LT.nil ?_ | refine HT.nil1 ?_ | (refine LT.consT ?_; (first | refine T.box (e := 118) (cs := [.val _, .val _, .val _, .val _]) rfl rfl (by decide) rfl rfl ?_)) | ((first | apply LT.cons1 | (apply LT.guard1; rfl; rfl; rfl; decide)); (first | exact OpH.callF Tryz.func92 rfl rfl rfl gR rfl | exact arm56_1); decide) | refine LT.skip1 rfl rfl rfl (by decide) (by decide) ?_ | refine LT.skip2 rfl rfl (by decide) (by decide) ?_ | refine LT.partD rfl rfl (fun _ => ?_) (fun _ => ?_) | refine LT.partN rfl rfl (fun _ => ?_) (fun _ => ?_) | (refine LT.part1 rfl rfl (fun h => ?_) (fun h => ?_); (fail_if_success exact absurd h (by decide)); rotate_left; (fail_if_success exact absurd h (by decide)); rotate_left))
      refine ⟨by first | exact .inl rfl | exact .inr rfl, _, (.cons (.tmp 4 (A := .val _) rfl (fun _ h => by cases h)) .nil), ?_, rfl⟩
      simp [h1, retsV]
theorem arm28_1 {p : Prop} (h : p := by first | exact OpH.assign (v := .val _) rfl | exact OpH.assign (v := .sl _ _) rfl | exact OpH.assign (v := .row _ _ _ _) rfl | exact OpH.assign (v := .full _ _) rfl | exact OpH.assign (v := .ptr _ _) rfl | exact OpH.assign (v := .cptr _) rfl | exact OpH.assign (v := .cloB _ _) rfl | exact OpH.assign (v := .clo _ _) rfl | exact OpH.assign (v := .pr _) rfl | exact OpH.assign (v := .arow _) rfl | exact OpH.assign (v := .aptr _ _ _ _) rfl | exact OpH.assign (v := .asub _ _ _ _) rfl | exact OpH.assign (v := .tup _) rfl | exact OpH.move (v := .val _) rfl | exact OpH.move (v := .sl _ _) rfl | exact OpH.move (v := .row _ _ _ _) rfl | exact OpH.move (v := .full _ _) rfl | exact OpH.move (v := .ptr _ _) rfl | exact OpH.move (v := .cptr _) rfl | exact OpH.move (v := .cloB _ _) rfl | exact OpH.move (v := .clo _ _) rfl | exact OpH.move (v := .pr _) rfl | exact OpH.move (v := .arow _) rfl | exact OpH.move (v := .aptr _ _ _ _) rfl | exact OpH.move (v := .asub _ _ _ _) rfl | exact OpH.move (v := .tup _) rfl | exact OpH.lenM (t := 77) rfl (.sl _ _) (by kernel_rfl) | exact OpH.lenM (t := 77) rfl (.row _ _ _ _) (by kernel_rfl) | exact OpH.lenM (t := 77) rfl (.full _ _) (by kernel_rfl) | exact OpH.len (t := 77) rfl slP (by kernel_rfl) | exact OpH.lenNil (t := 77) rfl (by kernel_rfl) | exact OpH.bin rfl rfl (pb_lss_t (by omega)) | exact OpH.bin rfl rfl (pb_lss_f (by omega)) | exact OpH.bin rfl rfl (pb_lss) | exact OpH.indexS (t := 77) (k := 4) rfl slP rfl rfl (by kernel_rfl) (map_at bd) rfl | exact loadC4 (t := 118) rfl (by kernel_rfl) | exact loadB4 (t := 118) rfl rfl (by kernel_rfl) rfl | exact OpH.un rfl un_not | exact OpH.un rfl (un_neg (by omega)) | exact OpH.bin rfl rfl (pb_gtr_t (by omega)) | exact OpH.bin rfl rfl (pb_gtr_f (by omega)) | exact OpH.bin rfl rfl (pb_gtr) | exact OpH.bin rfl rfl (pb_sub (by omega)) | exact OpH.bin rfl rfl (pb_subw) | exact OpH.fieldC (s := 118) (f := 0) (off := 0) rfl (by kernel_rfl) rfl | exact OpH.fieldB (s := 118) (f := 0) (off := 0) rfl (by kernel_rfl) rfl | exact loadC3 (t := 116) rfl (by kernel_rfl) | exact loadB3 (t := 116) rfl rfl (by kernel_rfl) rfl | exact OpH.bin rfl rfl (pb_geq_t (by omega)) | exact OpH.bin rfl rfl (pb_geq_f (by omega)) | exact OpH.bin rfl rfl (pb_geq) | exact OpH.pick (b := true) (v := .val _) rfl rfl | exact OpH.pick (b := false) (v := .val _) rfl rfl | exact OpH.pick (b := true) (v := .sl _ _) rfl rfl | exact OpH.pick (b := false) (v := .sl _ _) rfl rfl | exact OpH.pick (b := true) (v := .row _ _ _ _) rfl rfl | exact OpH.pick (b := false) (v := .row _ _ _ _) rfl rfl | exact OpH.pick (b := true) (v := .full _ _) rfl rfl | exact OpH.pick (b := false) (v := .full _ _) rfl rfl | exact OpH.pickV rfl rfl rfl | exact OpH.bin rfl rfl (pb_inc (by omega)) | exact OpH.bin rfl rfl (pb_addN rfl (by omega)) | exact OpH.bin rfl rfl (pb_add (by omega)) | exact OpH.bin rfl rfl (pb_addw) | exact OpH.bin rfl rfl (pb_eql_t (by first | omega | assumption)) | exact OpH.bin rfl rfl (pb_eql_f (by first | omega | assumption)) | exact OpH.bin rfl rfl (pb_eql) | exact OpH.bin rfl rfl (pb_leq_t (by omega)) | exact OpH.bin rfl rfl (pb_leq_f (by omega)) | exact OpH.bin rfl rfl (pb_leq)) : p := h
set_option maxRecDepth 100000 in
set_option maxHeartbeats 2000000 in
theorem g_rTable (rs : List Rte) (b : Bool) (hb : b = true ↔ TableR rs ∧ rs.length ≤ 256) (hok : ∀ r ∈ rs, r.p.a.ok) (hl : rs.length ≤ 65536) : Good Tryz.prog 28 [.val (.int .i64 128), .sl 4 (rs.map encR)] (.val (.bool b)) := by
  refine Good.of_body (T := [(0, _), (1, _)]) Tryz.func28 rfl rfl rfl ?_
  intro K0 w0 hno
  repeat' (first | refine CT.seqR ?_ | refine CT.seqD (id := 4) 25 (by kernel_rfl) (by kernel_rfl) ?_ | refine CT.draw (id := 4) 25 (by kernel_rfl) (by kernel_rfl) ?_ | refine CT.region ?_ | refine CT.seq1 ?_ | refine CT.block ?_ | refine CT.condT rfl ?_ | refine CT.condF rfl ?_ | refine CT.condD rfl (fun _ => ?_) (fun _ => ?_) | refine CT.condN rfl (fun _ => ?_) (fun _ => ?_) | refine CT.cond rfl (fun _ => ?_) (fun _ => ?_) | refine CT.skip ?_ | refine CT.exit ?_ | refine CT.ret ?_ | refine LT.nil ?_ | refine HT.nil1 ?_ | ((first | apply LT.cons1 | (apply LT.guard1; rfl; rfl; rfl; decide) | apply HT.cons1 | (apply HT.guard1; rfl; rfl; rfl)); (first | exact arm28_1); (try decide)) | refine LT.skip1 rfl rfl rfl (by decide) (by decide) ?_ | refine LT.skip2 rfl rfl (by decide) (by decide) ?_ | refine LT.partD rfl rfl (fun _ => ?_) (fun _ => ?_) | refine LT.partN rfl rfl (fun _ => ?_) (fun _ => ?_) | refine HT.skip1 rfl rfl rfl ?_ | refine HT.skip2 rfl rfl ?_ | refine HT.partD rfl rfl (fun _ => ?_) (fun _ => ?_) | refine HT.partN rfl rfl (fun _ => ?_) (fun _ => ?_) | ((first | refine LT.part1 rfl rfl (fun h => ?_) (fun h => ?_) | refine HT.part1 rfl rfl (fun h => ?_) (fun h => ?_)); (fail_if_success exact absurd h (by decide)); rotate_left; (fail_if_success exact absurd h (by decide)); rotate_left))
  refine CT.loopX (fun k : Nat => (⟨[(0, .val (.int .i64 128)), (1, .sl 4 (rs.map encR)), (5, .val (.int .i64 k))], [], []⟩ : St))
    (fun k => k ≤ rs.length ∧ TabTo rs k) (fun k => rs.length - k) 0 ?_ ⟨by omega, TabTo.start rs⟩ ?_
  · (apply Sub.mk; (focus (repeat (first | exact .nil | refine .other (.keep rfl rfl) ?_ | refine .other (.aref rfl rfl rfl) ?_ | refine .other (.val rfl (by first | rfl | (congr 1; first | omega | assumption | (symm; assumption)) | (simp; omega))) ?_ | refine .other .dead ?_ | refine .other (.sl rfl (.row _ _ _ _) rfl) ?_ | refine .other (.sl rfl (.sl _ _) rfl) ?_ | refine .other (.sl rfl (.full _ _) rfl) ?_ | refine .other (.slNil rfl rfl) ?_ | refine .rowNil rfl rfl rfl ?_ | refine .row rfl (by first | rfl | assumption | (rw [← List.map_append]; first | done | rfl | congr 1)) rfl rfl ?_))); (focus (repeat (first | exact .nil | refine KeepB.same rfl rfl rfl ?_ | refine KeepB.sameA rfl rfl rfl ?_))); (focus (repeat (first | exact .nil | refine KeepA.cons rfl (by first | rfl | assumption | exact List.map_set | exact List.map_set.symm | (rw [← List.map_append]; first | done | rfl | congr 1) | (congr 1; first | omega | assumption)) ?_))))
  rintro k ⟨hk, hT⟩
  by_cases hlt : k < rs.length
  · have hno' : (¬ TabTo rs rs.length) → b = false := fun h => by
      cases hbb : b with
      | false => rfl
      | true => exact absurd ((TabTo.table hok).2 (hb.1 hbb).1) h
    have gR := g_r6Right rs[k] (hok _ (List.getElem_mem hlt))
    cases hr : rrRight rs[k] with
    | false =>
      rw [hr] at gR
      have hbf := hno' fun h => by rw [(h k hlt hlt).1] at hr; cases hr
      repeat' (first | refine CT.seqR ?_ | refine CT.seqD (id := 4) 25 (by kernel_rfl) (by kernel_rfl) ?_ | refine CT.draw (id := 4) 25 (by kernel_rfl) (by kernel_rfl) ?_ | refine CT.region ?_ | refine CT.seq1 ?_ | refine CT.block ?_ | refine CT.condT rfl ?_ | refine CT.condF rfl ?_ | refine CT.condD rfl (fun _ => ?_) (fun _ => ?_) | refine CT.condN rfl (fun _ => ?_) (fun _ => ?_) | refine CT.cond rfl (fun _ => ?_) (fun _ => ?_) | refine CT.skip ?_ | refine CT.exit ?_ | refine CT.ret ?_ | refine LT.nil ?_ | refine HT.nil1 ?_ | ((first | apply LT.cons1 | (apply LT.guard1; rfl; rfl; rfl; decide) | apply HT.cons1 | (apply HT.guard1; rfl; rfl; rfl)); (first | exact OpH.callF Tryz.func56 rfl rfl rfl gR rfl | exact arm28_1); (try decide)) | refine LT.skip1 rfl rfl rfl (by decide) (by decide) ?_ | refine LT.skip2 rfl rfl (by decide) (by decide) ?_ | refine LT.partD rfl rfl (fun _ => ?_) (fun _ => ?_) | refine LT.partN rfl rfl (fun _ => ?_) (fun _ => ?_) | refine HT.skip1 rfl rfl rfl ?_ | refine HT.skip2 rfl rfl ?_ | refine HT.partD rfl rfl (fun _ => ?_) (fun _ => ?_) | refine HT.partN rfl rfl (fun _ => ?_) (fun _ => ?_) | ((first | refine LT.part1 rfl rfl (fun h => ?_) (fun h => ?_) | refine HT.part1 rfl rfl (fun h => ?_) (fun h => ?_)); (fail_if_success exact absurd h (by decide)); rotate_left; (fail_if_success exact absurd h (by decide)); rotate_left))
      refine ⟨by first | exact .inl rfl | exact .inr rfl, _, (.cons (.tmp 4 (A := .val _) rfl (fun _ h => by cases h)) .nil), ?_, rfl⟩
      rw [hbf]; rfl
    | true =>
      rw [hr] at gR
      by_cases hk0 : k = 0
      · subst hk0
        repeat' (first | refine CT.seqR ?_ | refine CT.seqD (id := 4) 25 (by kernel_rfl) (by kernel_rfl) ?_ | refine CT.draw (id := 4) 25 (by kernel_rfl) (by kernel_rfl) ?_ | refine CT.region ?_ | refine CT.seq1 ?_ | refine CT.block ?_ | refine CT.condT rfl ?_ | refine CT.condF rfl ?_ | refine CT.condD rfl (fun _ => ?_) (fun _ => ?_) | refine CT.condN rfl (fun _ => ?_) (fun _ => ?_) | refine CT.cond rfl (fun _ => ?_) (fun _ => ?_) | refine CT.skip ?_ | refine CT.exit ?_ | refine CT.ret ?_ | refine LT.nil ?_ | refine HT.nil1 ?_ | ((first | apply LT.cons1 | (apply LT.guard1; rfl; rfl; rfl; decide) | apply HT.cons1 | (apply HT.guard1; rfl; rfl; rfl)); (first | exact OpH.callF Tryz.func56 rfl rfl rfl gR rfl | exact arm28_1); (try decide)) | refine LT.skip1 rfl rfl rfl (by decide) (by decide) ?_ | refine LT.skip2 rfl rfl (by decide) (by decide) ?_ | refine LT.partD rfl rfl (fun _ => ?_) (fun _ => ?_) | refine LT.partN rfl rfl (fun _ => ?_) (fun _ => ?_) | refine HT.skip1 rfl rfl rfl ?_ | refine HT.skip2 rfl rfl ?_ | refine HT.partD rfl rfl (fun _ => ?_) (fun _ => ?_) | refine HT.partN rfl rfl (fun _ => ?_) (fun _ => ?_) | ((first | refine LT.part1 rfl rfl (fun h => ?_) (fun h => ?_) | refine HT.part1 rfl rfl (fun h => ?_) (fun h => ?_)); (fail_if_success exact absurd h (by decide)); rotate_left; (fail_if_success exact absurd h (by decide)); rotate_left))
        refine ⟨0 + 1, ⟨by omega, hT.step hlt hr fun h0 => by omega⟩, by omega, ?_⟩
        (apply Sub.mk; (focus (repeat (first | exact .nil | refine .other (.keep rfl rfl) ?_ | refine .other (.aref rfl rfl rfl) ?_ | refine .other (.val rfl (by first | rfl | (congr 1; first | omega | assumption | (symm; assumption)) | (simp; omega))) ?_ | refine .other .dead ?_ | refine .other (.sl rfl (.row _ _ _ _) rfl) ?_ | refine .other (.sl rfl (.sl _ _) rfl) ?_ | refine .other (.sl rfl (.full _ _) rfl) ?_ | refine .other (.slNil rfl rfl) ?_ | refine .rowNil rfl rfl rfl ?_ | refine .row rfl (by first | rfl | assumption | (rw [← List.map_append]; first | done | rfl | congr 1)) rfl rfl ?_))); (focus (repeat (first | exact .nil | refine KeepB.same rfl rfl rfl ?_ | refine KeepB.sameA rfl rfl rfl ?_))); (focus (repeat (first | exact .nil | refine KeepA.cons rfl (by first | rfl | assumption | exact List.map_set | exact List.map_set.symm | (rw [← List.map_append]; first | done | rfl | congr 1) | (congr 1; first | omega | assumption)) ?_))))
      · have hk1 : k - 1 < rs.length := by omega
        have gC := g_r2Cmp rs[k - 1].p rs[k].p (hok _ (List.getElem_mem hk1)) (hok _ (List.getElem_mem hlt))
        obtain ⟨c, hc⟩ : ∃ c, pCmp rs[k - 1].p rs[k].p = c := ⟨_, rfl⟩
        rw [hc] at gC
        by_cases hneg : c < 0
        · repeat' (first | refine CT.seqR ?_ | refine CT.seqD (id := 4) 25 (by kernel_rfl) (by kernel_rfl) ?_ | refine CT.draw (id := 4) 25 (by kernel_rfl) (by kernel_rfl) ?_ | refine CT.region ?_ | refine CT.seq1 ?_ | refine CT.block ?_ | refine CT.condT rfl ?_ | refine CT.condF rfl ?_ | refine CT.condD rfl (fun _ => ?_) (fun _ => ?_) | refine CT.condN rfl (fun _ => ?_) (fun _ => ?_) | refine CT.cond rfl (fun _ => ?_) (fun _ => ?_) | refine CT.skip ?_ | refine CT.exit ?_ | refine CT.ret ?_ | refine LT.nil ?_ | refine HT.nil1 ?_ | ((first | apply LT.cons1 | (apply LT.guard1; rfl; rfl; rfl; decide) | apply HT.cons1 | (apply HT.guard1; rfl; rfl; rfl)); (first | exact OpH.callF Tryz.func56 rfl rfl rfl gR rfl | exact OpH.callF Tryz.func57 rfl rfl rfl gC rfl | exact OpH.indexS (t := 77) (k := 4) (j := k - 1) rfl slP rfl (by omega) (by kernel_rfl) (map_at hk1) rfl | exact arm28_1); (try decide)) | refine LT.skip1 rfl rfl rfl (by decide) (by decide) ?_ | refine LT.skip2 rfl rfl (by decide) (by decide) ?_ | refine LT.partD rfl rfl (fun _ => ?_) (fun _ => ?_) | refine LT.partN rfl rfl (fun _ => ?_) (fun _ => ?_) | refine HT.skip1 rfl rfl rfl ?_ | refine HT.skip2 rfl rfl ?_ | refine HT.partD rfl rfl (fun _ => ?_) (fun _ => ?_) | refine HT.partN rfl rfl (fun _ => ?_) (fun _ => ?_) | ((first | refine LT.part1 rfl rfl (fun h => ?_) (fun h => ?_) | refine HT.part1 rfl rfl (fun h => ?_) (fun h => ?_)); (fail_if_success exact absurd h (by decide)); rotate_left; (fail_if_success exact absurd h (by decide)); rotate_left))
          refine ⟨k + 1, ⟨by omega, hT.step hlt hr fun h0 => by unfold pLt; rw [hc]; exact hneg⟩, by omega, ?_⟩
          (apply Sub.mk; (focus (repeat (first | exact .nil | refine .other (.keep rfl rfl) ?_ | refine .other (.aref rfl rfl rfl) ?_ | refine .other (.val rfl (by first | rfl | (congr 1; first | omega | assumption | (symm; assumption)) | (simp; omega))) ?_ | refine .other .dead ?_ | refine .other (.sl rfl (.row _ _ _ _) rfl) ?_ | refine .other (.sl rfl (.sl _ _) rfl) ?_ | refine .other (.sl rfl (.full _ _) rfl) ?_ | refine .other (.slNil rfl rfl) ?_ | refine .rowNil rfl rfl rfl ?_ | refine .row rfl (by first | rfl | assumption | (rw [← List.map_append]; first | done | rfl | congr 1)) rfl rfl ?_))); (focus (repeat (first | exact .nil | refine KeepB.same rfl rfl rfl ?_ | refine KeepB.sameA rfl rfl rfl ?_))); (focus (repeat (first | exact .nil | refine KeepA.cons rfl (by first | rfl | assumption | exact List.map_set | exact List.map_set.symm | (rw [← List.map_append]; first | done | rfl | congr 1) | (congr 1; first | omega | assumption)) ?_))))
        · have hbf := hno' fun h => by have := (h k hlt hlt).2 (by omega); unfold pLt at this; rw [hc] at this; exact hneg this
          repeat' (first | refine CT.seqR ?_ | refine CT.seqD (id := 4) 25 (by kernel_rfl) (by kernel_rfl) ?_ | refine CT.draw (id := 4) 25 (by kernel_rfl) (by kernel_rfl) ?_ | refine CT.region ?_ | refine CT.seq1 ?_ | refine CT.block ?_ | refine CT.condT rfl ?_ | refine CT.condF rfl ?_ | refine CT.condD rfl (fun _ => ?_) (fun _ => ?_) | refine CT.condN rfl (fun _ => ?_) (fun _ => ?_) | refine CT.cond rfl (fun _ => ?_) (fun _ => ?_) | refine CT.skip ?_ | refine CT.exit ?_ | refine CT.ret ?_ | refine LT.nil ?_ | refine HT.nil1 ?_ | ((first | apply LT.cons1 | (apply LT.guard1; rfl; rfl; rfl; decide) | apply HT.cons1 | (apply HT.guard1; rfl; rfl; rfl)); (first | exact OpH.callF Tryz.func56 rfl rfl rfl gR rfl | exact OpH.callF Tryz.func57 rfl rfl rfl gC rfl | exact OpH.indexS (t := 77) (k := 4) (j := k - 1) rfl slP rfl (by omega) (by kernel_rfl) (map_at hk1) rfl | exact arm28_1); (try decide)) | refine LT.skip1 rfl rfl rfl (by decide) (by decide) ?_ | refine LT.skip2 rfl rfl (by decide) (by decide) ?_ | refine LT.partD rfl rfl (fun _ => ?_) (fun _ => ?_) | refine LT.partN rfl rfl (fun _ => ?_) (fun _ => ?_) | refine HT.skip1 rfl rfl rfl ?_ | refine HT.skip2 rfl rfl ?_ | refine HT.partD rfl rfl (fun _ => ?_) (fun _ => ?_) | refine HT.partN rfl rfl (fun _ => ?_) (fun _ => ?_) | ((first | refine LT.part1 rfl rfl (fun h => ?_) (fun h => ?_) | refine HT.part1 rfl rfl (fun h => ?_) (fun h => ?_)); (fail_if_success exact absurd h (by decide)); rotate_left; (fail_if_success exact absurd h (by decide)); rotate_left))
          refine ⟨by first | exact .inl rfl | exact .inr rfl, _, (.cons (.tmp 4 (A := .val _) rfl (fun _ h => by cases h)) .nil), ?_, rfl⟩
          rw [hbf]; rfl
  · obtain rfl : k = rs.length := by omega
    rw [TabTo.table hok] at hT
    by_cases hm : rs.length ≤ 256
    · rw [hb.2 ⟨hT, hm⟩]
      repeat' (first | refine CT.seqR ?_ | refine CT.seqD (id := 4) 25 (by kernel_rfl) (by kernel_rfl) ?_ | refine CT.draw (id := 4) 25 (by kernel_rfl) (by kernel_rfl) ?_ | refine CT.region ?_ | refine CT.seq1 ?_ | refine CT.block ?_ | refine CT.condT rfl ?_ | refine CT.condF rfl ?_ | refine CT.condD rfl (fun _ => ?_) (fun _ => ?_) | refine CT.condN rfl (fun _ => ?_) (fun _ => ?_) | refine CT.cond rfl (fun _ => ?_) (fun _ => ?_) | refine CT.skip ?_ | refine CT.exit ?_ | refine CT.ret ?_ | refine LT.nil ?_ | refine HT.nil1 ?_ | ((first | apply LT.cons1 | (apply LT.guard1; rfl; rfl; rfl; decide) | apply HT.cons1 | (apply HT.guard1; rfl; rfl; rfl)); (first | exact arm28_1); (try decide)) | refine LT.skip1 rfl rfl rfl (by decide) (by decide) ?_ | refine LT.skip2 rfl rfl (by decide) (by decide) ?_ | refine LT.partD rfl rfl (fun _ => ?_) (fun _ => ?_) | refine LT.partN rfl rfl (fun _ => ?_) (fun _ => ?_) | refine HT.skip1 rfl rfl rfl ?_ | refine HT.skip2 rfl rfl ?_ | refine HT.partD rfl rfl (fun _ => ?_) (fun _ => ?_) | refine HT.partN rfl rfl (fun _ => ?_) (fun _ => ?_) | ((first | refine LT.part1 rfl rfl (fun h => ?_) (fun h => ?_) | refine HT.part1 rfl rfl (fun h => ?_) (fun h => ?_)); (fail_if_success exact absurd h (by decide)); rotate_left; (fail_if_success exact absurd h (by decide)); rotate_left))
      refine ⟨by first | exact .inl rfl | exact .inr rfl, _, (.cons (.tmp 4 (A := .val _) rfl (fun _ h => by cases h)) .nil), ?_, rfl⟩
      rfl
    · have hbf : b = false := by
        cases hbb : b with
        | false => rfl
        | true => exact absurd (hb.1 hbb).2 hm
      rw [hbf]
      repeat' (first | refine CT.seqR ?_ | refine CT.seqD (id := 4) 25 (by kernel_rfl) (by kernel_rfl) ?_ | refine CT.draw (id := 4) 25 (by kernel_rfl) (by kernel_rfl) ?_ | refine CT.region ?_ | refine CT.seq1 ?_ | refine CT.block ?_ | refine CT.condT rfl ?_ | refine CT.condF rfl ?_ | refine CT.condD rfl (fun _ => ?_) (fun _ => ?_) | refine CT.condN rfl (fun _ => ?_) (fun _ => ?_) | refine CT.cond rfl (fun _ => ?_) (fun _ => ?_) | refine CT.skip ?_ | refine CT.exit ?_ | refine CT.ret ?_ | refine LT.nil ?_ | refine HT.nil1 ?_ | ((first | apply LT.cons1 | (apply LT.guard1; rfl; rfl; rfl; decide) | apply HT.cons1 | (apply HT.guard1; rfl; rfl; rfl)); (first | exact arm28_1); (try decide)) | refine LT.skip1 rfl rfl rfl (by decide) (by decide) ?_ | refine LT.skip2 rfl rfl (by decide) (by decide) ?_ | refine LT.partD rfl rfl (fun _ => ?_) (fun _ => ?_) | refine LT.partN rfl rfl (fun _ => ?_) (fun _ => ?_) | refine HT.skip1 rfl rfl rfl ?_ | refine HT.skip2 rfl rfl ?_ | refine HT.partD rfl rfl (fun _ => ?_) (fun _ => ?_) | refine HT.partN rfl rfl (fun _ => ?_) (fun _ => ?_) | ((first | refine LT.part1 rfl rfl (fun h => ?_) (fun h => ?_) | refine HT.part1 rfl rfl (fun h => ?_) (fun h => ?_)); (fail_if_success exact absurd h (by decide)); rotate_left; (fail_if_success exact absurd h (by decide)); rotate_left))
      refine ⟨by first | exact .inl rfl | exact .inr rfl, _, (.cons (.tmp 4 (A := .val _) rfl (fun _ h => by cases h)) .nil), ?_, rfl⟩
      rfl
theorem arm6_1 {p : Prop} (h : p := by first | exact OpH.assign (v := .val _) rfl | exact OpH.assign (v := .sl _ _) rfl | exact OpH.assign (v := .row _ _ _ _) rfl | exact OpH.assign (v := .full _ _) rfl | exact OpH.assign (v := .ptr _ _) rfl | exact OpH.assign (v := .cptr _) rfl | exact OpH.assign (v := .cloB _ _) rfl | exact OpH.assign (v := .clo _ _) rfl | exact OpH.assign (v := .pr _) rfl | exact OpH.assign (v := .arow _) rfl | exact OpH.assign (v := .aptr _ _ _ _) rfl | exact OpH.assign (v := .asub _ _ _ _) rfl | exact OpH.assign (v := .tup _) rfl | exact OpH.move (v := .val _) rfl | exact OpH.move (v := .sl _ _) rfl | exact OpH.move (v := .row _ _ _ _) rfl | exact OpH.move (v := .full _ _) rfl | exact OpH.move (v := .ptr _ _) rfl | exact OpH.move (v := .cptr _) rfl | exact OpH.move (v := .cloB _ _) rfl | exact OpH.move (v := .clo _ _) rfl | exact OpH.move (v := .pr _) rfl | exact OpH.move (v := .arow _) rfl | exact OpH.move (v := .aptr _ _ _ _) rfl | exact OpH.move (v := .asub _ _ _ _) rfl | exact OpH.move (v := .tup _) rfl | exact OpH.lenM (t := 22) rfl (.sl _ _) (by kernel_rfl) | exact OpH.lenM (t := 22) rfl (.row _ _ _ _) (by kernel_rfl) | exact OpH.lenM (t := 22) rfl (.full _ _) (by kernel_rfl) | exact OpH.len (t := 22) rfl slP (by kernel_rfl) | exact OpH.lenNil (t := 22) rfl (by kernel_rfl) | exact OpH.bin rfl rfl (pb_leq_t (by omega)) | exact OpH.bin rfl rfl (pb_leq_f (by omega)) | exact OpH.bin rfl rfl (pb_leq) | exact OpH.pick (b := true) (v := .val _) rfl rfl | exact OpH.pick (b := false) (v := .val _) rfl rfl | exact OpH.pick (b := true) (v := .sl _ _) rfl rfl | exact OpH.pick (b := false) (v := .sl _ _) rfl rfl | exact OpH.pick (b := true) (v := .row _ _ _ _) rfl rfl | exact OpH.pick (b := false) (v := .row _ _ _ _) rfl rfl | exact OpH.pick (b := true) (v := .full _ _) rfl rfl | exact OpH.pick (b := false) (v := .full _ _) rfl rfl | exact OpH.pickV rfl rfl rfl) : p := h
set_option maxRecDepth 100000 in
set_option maxHeartbeats 2000000 in
theorem g_law9Table (rs : List Rte) (b : Bool) (hb : b = true ↔ TableR rs ∧ rs.length ≤ 24) (hok : ∀ r ∈ rs, r.p.a.ok) (hl : rs.length ≤ 9223372036854775807) : Good Tryz.prog 6 [.sl 4 (rs.map encR)] (.val (.bool b)) := by
  refine Good.of_body (T := [(0, _)]) Tryz.func6 rfl rfl rfl ?_
  intro K0 w0 hno
  by_cases hm : rs.length ≤ 24
  · have gO := g_law6Of rs (by omega)
    have gT := g_rTable rs b (by rw [hb]; exact ⟨fun h => ⟨h.1, by omega⟩, fun h => ⟨h.1, hm⟩⟩) hok (by omega)
    repeat' (first | refine CT.seqR ?_ | refine CT.region ?_ | refine CT.seq1 ?_ | refine CT.block ?_ | refine CT.condT rfl ?_ | refine CT.condF rfl ?_ | refine CT.condD rfl (fun _ => ?_) (fun _ => ?_) | refine CT.condN rfl (fun _ => ?_) (fun _ => ?_) | refine CT.cond rfl (fun _ => ?_) (fun _ => ?_) | refine CT.skip ?_ | refine CT.exit ?_ | refine CT.ret ?_ | refine LT.nil ?_ | refine HT.nil1 ?_ | ((first | apply LT.cons1 | (apply LT.guard1; rfl; rfl; rfl; decide)); (first | exact OpH.callFW Tryz.func29 rfl rfl rfl gO | exact OpH.callF Tryz.func28 rfl rfl rfl gT rfl | exact arm6_1); decide) | refine LT.skip1 rfl rfl rfl (by decide) (by decide) ?_ | refine LT.skip2 rfl rfl (by decide) (by decide) ?_ | refine LT.partD rfl rfl (fun _ => ?_) (fun _ => ?_) | refine LT.partN rfl rfl (fun _ => ?_) (fun _ => ?_) | (refine LT.part1 rfl rfl (fun h => ?_) (fun h => ?_); (fail_if_success exact absurd h (by decide)); rotate_left; (fail_if_success exact absurd h (by decide)); rotate_left))
    refine ⟨by first | exact .inl rfl | exact .inr rfl, _, (.cons (.tmp 2 (A := .val _) rfl (fun _ h => by cases h)) .nil), ?_, rfl⟩
    rfl
  · have hbf : b = false := by
      cases hbb : b with
      | false => rfl
      | true => exact absurd (hb.1 hbb).2 hm
    rw [hbf]
    repeat' (first | refine CT.seqR ?_ | refine CT.region ?_ | refine CT.seq1 ?_ | refine CT.block ?_ | refine CT.condT rfl ?_ | refine CT.condF rfl ?_ | refine CT.condD rfl (fun _ => ?_) (fun _ => ?_) | refine CT.condN rfl (fun _ => ?_) (fun _ => ?_) | refine CT.cond rfl (fun _ => ?_) (fun _ => ?_) | refine CT.skip ?_ | refine CT.exit ?_ | refine CT.ret ?_ | refine LT.nil ?_ | refine HT.nil1 ?_ | ((first | apply LT.cons1 | (apply LT.guard1; rfl; rfl; rfl; decide)); (first | exact arm6_1); decide) | refine LT.skip1 rfl rfl rfl (by decide) (by decide) ?_ | refine LT.skip2 rfl rfl (by decide) (by decide) ?_ | refine LT.partD rfl rfl (fun _ => ?_) (fun _ => ?_) | refine LT.partN rfl rfl (fun _ => ?_) (fun _ => ?_) | (refine LT.part1 rfl rfl (fun h => ?_) (fun h => ?_); (fail_if_success exact absurd h (by decide)); rotate_left; (fail_if_success exact absurd h (by decide)); rotate_left))
    refine ⟨by first | exact .inl rfl | exact .inr rfl, _, (.cons (.tmp 2 (A := .val _) rfl (fun _ h => by cases h)) .nil), ?_, rfl⟩
    rfl
end Go.Proofs.YtjmnnkhdadoehaaGreat

/- prune.Keep. -/
namespace Go.Proofs.YtjmnnkhdadoehaaGreat
set_option linter.unusedSimpArgs false
set_option linter.unusedVariables false
open Go Go.RowKit Go.Shelf
attribute [local irreducible] OpH OpT LT CT HT Good
end Go.Proofs.YtjmnnkhdadoehaaGreat
