/- What ref04.Merge does. -/
import Derived.Test.YtjibochjmmehcaaYGoods
import Derived.Test.YtjibochjmmehcaaYAbs8
import Derived.Test.YtjibochjmmehcaaYWalkW
namespace Go.Proofs.Ytjibochjmmehcaa
set_option linter.unusedSimpArgs false
set_option linter.unusedVariables false
open Go Go.RowKit Go.Shelf
/-- Plain values in; a row of the call's own comes back. -/
theorem Good.valsRow {P : Program} {f : FuncId} {β : Type} {enc' : β → List Value} {k' e : Nat} {ys : List β} (hk : ∀ y, (enc' y).length = k') (h1 : ∀ y, ∀ u ∈ enc' y, u.oneCell' = true) {args : List Value} {As : List AV} (hA : As = args.map AV.val)
    (h : ∀ w, Calls P f args.toArray w fun e' w' => ∃ v, e' = .returned v ∧ w'.ownsRow w.heap.size e k' v ys.length (ys.flatMap enc') ∧ Below w.heap.size w w') : Good P f As (.row 0 e k' (ys.map enc')) := by
  subst hA
  intro K w cargs hok hlen hrep
  have e1 : cargs = args := by
    apply List.ext_getElem?
    intro i
    by_cases hi : i < args.length
    · have hi' : i < cargs.length := by simp at hlen; omega
      have := hrep i (.val args[i]) cargs[i] (by simp [List.getElem?_eq_getElem hi]) (by simp [List.getElem?_eq_getElem hi'])
      rw [List.getElem?_eq_getElem hi, List.getElem?_eq_getElem hi']
      exact congrArg some this
    · have hlen' : cargs.length = args.length := by simpa using hlen
      rw [List.getElem?_eq_none (by omega), List.getElem?_eq_none (by omega)]
  subst e1
  refine (h w).mono ?_
  rintro e w' ⟨v, rfl, hown, hb⟩
  obtain ⟨K', p1, p2, p3, p4⟩ := own_res (xs := ys.map enc') hok hb (by rw [List.length_map, ← List.flatMap_def]; exact hown) (fun x hx => by obtain ⟨y, _, rfl⟩ := List.mem_map.1 hx; exact hk y) (List.all_eq_true.2 fun x hx => by obtain ⟨y, _, rfl⟩ := List.mem_map.1 hx; exact List.all_eq_true.2 (h1 y)) 0
  exact ⟨v, K', rfl, hb, p1, p2, p3, p4⟩
def bitsL (f : Nat → Bool) : List Bool := (List.range 128).map f
theorem bitsL_len (f : Nat → Bool) : (bitsL f).length = 128 := by simp [bitsL]
theorem bitsL_get (f : Nat → Bool) {k : Nat} (hk : k < 128) (h : k < (bitsL f).length) : (bitsL f)[k] = f k := by simp [bitsL]
theorem bitsL_at (f : Nat → Bool) {k : Nat} (hk : k < 128) : bitAt (bitsL f) k = f k := by rw [bitAt_get (by rw [bitsL_len]; exact hk), bitsL_get f hk]
theorem bitsL_congr {f g : Nat → Bool} (h : ∀ i, i < 128 → f i = g i) : bitsL f = bitsL g := by
  unfold bitsL
  exact List.map_congr_left fun i hi => h i (List.mem_range.1 hi)
theorem bitsL_set (f g : Nat → Bool) {k : Nat} {b : Bool} (hk : k < 128) (h : ∀ i, i < 128 → g i = if i = k then b else f i) : (bitsL f).set k b = bitsL g := by
  apply List.ext_getElem
  · simp [bitsL]
  · intro i h1 h2
    have hi : i < 128 := by rw [bitsL_len] at h2; exact h2
    rw [List.getElem_set, bitsL_get g hi, h i hi]
    split
    · rename_i e; rw [if_pos e.symm]
    · rename_i e; rw [if_neg (fun e2 => e e2.symm), bitsL_get f hi]
theorem words_bitsL (f : Nat → Bool) : words (bitAt (bitsL f)) = words f := by
  refine ok_ext (words_ok _) (words_ok _) fun i hi => ?_
  rw [words_bit _ hi, words_bit _ hi, bitsL_at f hi]
/-- The last one of the first k; -1: there is none. -/
def lastTo (p : Nat → Bool) : Nat → Int
  | 0 => -1
  | k + 1 => if p k = true then (k : Int) else lastTo p k
theorem cntTo_le (p : Nat → Bool) : ∀ k, cntTo p k ≤ k
  | 0 => Nat.le_refl _
  | k + 1 => by
    have := cntTo_le p k
    simp only [cntTo]
    cases p k <;> simp <;> omega
theorem lastTo_one {p : Nat → Bool} : ∀ n, cntTo p n = 1 → ∃ k, k < n ∧ lastTo p n = (k : Int) ∧ p k = true ∧ ∀ i, i < n → i ≠ k → p i = false
  | 0, h => by simp [cntTo] at h
  | n + 1, h => by
    simp only [cntTo] at h
    cases hp : p n with
    | true =>
      rw [hp] at h
      have := (cntTo_zero n).1 (by simpa using h)
      exact ⟨n, Nat.lt_succ_self _, by simp [lastTo, hp], hp, fun i hi hne => this i (by omega)⟩
    | false =>
      rw [hp] at h
      obtain ⟨k, h1, h2, h3, h4⟩ := lastTo_one n (by simpa using h)
      refine ⟨k, by omega, by simp [lastTo, hp, h2], h3, fun i hi hne => ?_⟩
      by_cases e : i = n
      · subst e; exact hp
      · exact h4 i (by omega) hne
theorem lenB (x : Bool) : (encB x).length = 1 := rfl
theorem oneB (x : Bool) : ∀ u ∈ encB x, u.oneCell' = true := by
  intro u hu
  simp only [encB, List.mem_singleton] at hu
  subst hu; rfl
theorem posB (x : Bool) : encB x ≠ [] := by simp [encB]
theorem flatB : ∀ l : List Bool, l.flatMap encB = l.map Value.bool
  | [] => rfl
  | x :: l => by rw [List.flatMap_cons, flatB l]; rfl
theorem g_Bits (a0 a1 : Int) (ha : A2.ok ⟨a0, a1⟩) : Good Try.prog 59 [.val (.agg #[.int .u64 a0, .int .u64 a1])] (.row 0 4 1 ((bitsL (abit ⟨a0, a1⟩)).map encB)) :=
  Good.valsRow (args := [.agg #[.int .u64 a0, .int .u64 a1]]) lenB oneB rfl fun w => (c_Bits a0 a1 ha w).mono fun e w' ⟨b, h1, h2, ⟨c, h3, h4, h5⟩, h6⟩ => by
    refine ⟨_, h1, ⟨by rw [flatB, List.length_map, bitsL_len], .inr ⟨b, 128, c, by rw [bitsL_len], h2, h3, by rw [bitsL_len]; exact Nat.le_refl _, by unfold maxLen; omega, by omega, ?_⟩⟩, h6⟩
    rw [bitsL_len, List.take_of_length_le (by simp; omega), flatB]
    apply List.ext_getElem?
    intro i
    by_cases hi : i < 128
    · rw [Array.getElem?_toList, h5 i hi]
      simp [bitsL, hi]
    · rw [List.getElem?_eq_none (by simp; omega), List.getElem?_eq_none (by simp [bitsL]; omega)]
theorem g_Words (bs : List Bool) (hl : bs.length = 128) : Good Try.prog 82 [.sl 1 (bs.map encB)] (.val (.agg #[.int .u64 (words (bitAt bs)).x, .int .u64 (words (bitAt bs)).y])) :=
  Good.sl1 (args := []) posB rfl fun A c w _ _ h => by
    have := c_Words A c bs hl w h
    rw [hl]
    exact this
/-! ### ref04.Merge -/
/-- Where x tells a bit, and y another one. -/
def mDif (x y : W2) (i : Nat) : Bool := abit x.m i && (abit x.v i != abit y.v i)
/-- The first word's bits behind k rounds. -/
def mV (x : W2) (k i : Nat) : Bool := if i < k then abit x.v i && abit x.m i else abit x.v i
def rMergeIs (x y : W2) : Bool := decide (x.m = y.m) && decide (cntTo (mDif x y) 128 = 1)
def rMergeW (x y : W2) : W2 := if rMergeIs x y = true then ⟨words fun i => mV x 128 i && !decide ((i : Int) = lastTo (mDif x y) 128), words fun i => abit x.m i && !decide ((i : Int) = lastTo (mDif x y) 128)⟩ else ⟨⟨0, 0⟩, ⟨0, 0⟩⟩
theorem mV_step (x : W2) {k : Nat} (hk : k < 128) : (bitsL (mV x k)).set k (abit x.v k && abit x.m k) = bitsL (mV x (k + 1)) := bitsL_set _ _ hk fun i hi => by
  unfold mV
  by_cases e : i = k
  · subst e; simp
  · rw [if_neg e]
    by_cases h : i < k
    · rw [if_pos h, if_pos (by omega)]
    · rw [if_neg h, if_neg (by omega)]
attribute [local irreducible] OpH OpT LT CT HT Good
theorem arm57_1 {p : Prop} (h : p := by first | exact OpH.assign (v := .val _) rfl | exact OpH.assign (v := .sl _ _) rfl | exact OpH.assign (v := .row _ _ _ _) rfl | exact OpH.assign (v := .full _ _) rfl | exact OpH.assign (v := .ptr _ _) rfl | exact OpH.assign (v := .cptr _) rfl | exact OpH.assign (v := .cloB _ _) rfl | exact OpH.assign (v := .clo _ _) rfl | exact OpH.assign (v := .pr _) rfl | exact OpH.assign (v := .arow _) rfl | exact OpH.assign (v := .aptr _ _ _ _) rfl | exact OpH.assign (v := .asub _ _ _ _) rfl | exact OpH.assign (v := .tup _) rfl | exact OpH.fieldC (s := 59) (f := 0) (off := 0) rfl (by kernel_rfl) rfl | exact OpH.fieldB (s := 59) (f := 0) (off := 0) rfl (by kernel_rfl) rfl | exact OpH.fieldA (s := 59) (f := 0) (off := 0) rfl (by kernel_rfl) rfl | exact loadC2 (t := 40) rfl (by kernel_rfl) | exact loadB2 (t := 40) rfl rfl (by kernel_rfl) rfl | exact OpH.loadA (t := 40) (vs := [_, _]) rfl rfl rfl (map_at bd) (by kernel_rfl) rfl rfl | exact OpH.fieldC (s := 59) (f := 1) (off := 2) rfl (by kernel_rfl) rfl | exact OpH.fieldB (s := 59) (f := 1) (off := 2) rfl (by kernel_rfl) rfl | exact OpH.fieldA (s := 59) (f := 1) (off := 2) rfl (by kernel_rfl) rfl | exact OpH.move (v := .val _) rfl | exact OpH.move (v := .sl _ _) rfl | exact OpH.move (v := .row _ _ _ _) rfl | exact OpH.move (v := .full _ _) rfl | exact OpH.move (v := .ptr _ _) rfl | exact OpH.move (v := .cptr _) rfl | exact OpH.move (v := .cloB _ _) rfl | exact OpH.move (v := .clo _ _) rfl | exact OpH.move (v := .pr _) rfl | exact OpH.move (v := .arow _) rfl | exact OpH.move (v := .aptr _ _ _ _) rfl | exact OpH.move (v := .asub _ _ _ _) rfl | exact OpH.move (v := .tup _) rfl | exact OpH.bin rfl rfl (pb_lss_t (by omega)) | exact OpH.bin rfl rfl (pb_lss_f (by omega)) | exact OpH.bin rfl rfl (pb_lss) | exact OpH.indexS (t := 97) (k := 1) rfl slP rfl rfl (by kernel_rfl) (map_at bd) rfl | exact OpH.indexA (t := 97) (k := 1) rfl rfl rfl rfl (by kernel_rfl) bd | exact OpH.loadC1 (t := 4) rfl (by kernel_rfl) rfl | exact OpH.loadB1 (t := 4) rfl rfl (by kernel_rfl) rfl | exact OpH.loadA1 (t := 4) rfl rfl rfl (map_at bd) (by kernel_rfl) rfl rfl | exact OpH.bin (xt := 4) rfl rfl (pb_of (pb_neqB (by kernel_rfl)) (nbeqB_f (by first | rfl | assumption))) | exact OpH.bin (xt := 4) rfl rfl (pb_neqB (by kernel_rfl)) | exact OpH.pick (b := true) (v := .val _) rfl rfl | exact OpH.pick (b := false) (v := .val _) rfl rfl | exact OpH.pick (b := true) (v := .sl _ _) rfl rfl | exact OpH.pick (b := false) (v := .sl _ _) rfl rfl | exact OpH.pick (b := true) (v := .row _ _ _ _) rfl rfl | exact OpH.pick (b := false) (v := .row _ _ _ _) rfl rfl | exact OpH.pick (b := true) (v := .full _ _) rfl rfl | exact OpH.pick (b := false) (v := .full _ _) rfl rfl | exact OpH.pickV rfl rfl rfl | exact OpH.bin rfl rfl (pb_inc (by omega)) | exact OpH.bin rfl rfl (pb_addN rfl (by omega)) | exact OpH.bin rfl rfl (pb_add (by omega)) | exact OpH.bin rfl rfl (pb_addw) | exact OpH.bin rfl rfl (pb_of (pb_agg eqg_40 (neq_40 _ _ _ _)) (nsame_f (by first | rfl | assumption))) | exact OpH.bin rfl rfl (pb_of (pb_agg eqg_40 (neq_40 _ _ _ _)) (nsame_t (by assumption))) | exact OpH.bin rfl rfl (pb_agg eqg_40 (neq_40 _ _ _ _)) | exact OpH.bin rfl rfl (pb_neq_t (by first | omega | assumption)) | exact OpH.bin rfl rfl (pb_neq_f (by first | omega | assumption)) | exact OpH.bin rfl rfl (pb_neq) | exact build_59_  | exact OpH.build (t := 59) (cells := #[_, _, _, _]) (by kernel_rfl) rfl | exact build_59_0_1 rfl rfl) : p := h
set_option maxRecDepth 100000 in
set_option maxHeartbeats 4000000 in
theorem g_rMerge (x y : W2) (hx : x.ok) (hy : y.ok) : Good Try.prog 57 [.val (.agg #[.int .u64 x.v.x, .int .u64 x.v.y, .int .u64 x.m.x, .int .u64 x.m.y]), .val (.agg #[.int .u64 y.v.x, .int .u64 y.v.y, .int .u64 y.m.x, .int .u64 y.m.y])] (.tup [.val (.agg #[.int .u64 (rMergeW x y).v.x, .int .u64 (rMergeW x y).v.y, .int .u64 (rMergeW x y).m.x, .int .u64 (rMergeW x y).m.y]), .val (.bool (rMergeIs x y))]) := by
  have gv := g_Bits x.v.x x.v.y hx.1
  have gm := g_Bits x.m.x x.m.y hx.2
  have gb := g_Bits y.v.x y.v.y hy.1
  refine Good.of_body (T := [(0, _), (1, _)]) Try.func57 rfl rfl rfl ?_
  intro K0 w0 hno
  repeat' (first | (refine LT.consT ?_; refine T.callArrL 14 Try.func59 rfl rfl rfl gv (by decide) rfl ?_) | (refine LT.consT ?_; refine T.callArrL 17 Try.func59 rfl rfl rfl gm (by decide) rfl ?_) | (refine LT.consT ?_; refine T.callArrL 20 Try.func59 rfl rfl rfl gb (by decide) rfl ?_) | refine CT.seqR ?_ | refine CT.seqD (id := 9) 14 (by kernel_rfl) (by kernel_rfl) ?_ | refine CT.draw (id := 9) 14 (by kernel_rfl) (by kernel_rfl) ?_ | refine CT.region ?_ | refine CT.seq1 ?_ | refine CT.block ?_ | refine CT.condT rfl ?_ | refine CT.condF rfl ?_ | refine CT.condD rfl (fun _ => ?_) (fun _ => ?_) | refine CT.condN rfl (fun _ => ?_) (fun _ => ?_) | refine CT.cond rfl (fun _ => ?_) (fun _ => ?_) | refine CT.skip ?_ | refine CT.exit ?_ | refine CT.ret ?_ | refine CT.goto ?_ | refine CT.label ?_ | refine LT.nil ?_ | refine HT.nil1 ?_ | (refine LT.consT ?_; (first | refine T.box (e := 59) (cs := [.val _, .val _, .val _, .val _]) rfl rfl (by decide) rfl rfl ?_ | refine T.alloc (e := 59) (z := .agg #[.int .u64 0, .int .u64 0, .int .u64 0, .int .u64 0]) (cs := [.val (.int .u64 0), .val (.int .u64 0), .val (.int .u64 0), .val (.int .u64 0)]) (by kernel_rfl) rfl (by decide) rfl rfl ?_ | refine T.storeA (t := 4) rfl rfl rfl rfl (map_at bd) (by kernel_rfl) (by kernel_rfl) (Nat.le_of_ble_eq_true (by kernel_rfl)) rfl rfl rfl ?_ | refine T.store (t := 4) rfl rfl rfl (by kernel_rfl) (by kernel_rfl) (Nat.le_of_ble_eq_true (by kernel_rfl)) rfl rfl ?_ | refine T.storeA (t := 59) rfl rfl rfl rfl (map_at bd) (by kernel_rfl) (by kernel_rfl) (Nat.le_of_ble_eq_true (by kernel_rfl)) rfl rfl rfl ?_ | refine T.store (t := 59) rfl rfl rfl (by kernel_rfl) (by kernel_rfl) (Nat.le_of_ble_eq_true (by kernel_rfl)) rfl rfl ?_)) | (apply LT.cons1; (first | exact arm57_1); decide) | (apply LT.guard1; rfl; rfl; rfl; decide; (first | exact arm57_1); decide) | refine LT.skip1 rfl rfl rfl (by decide) (by decide) ?_ | refine LT.skip2 rfl rfl (by decide) (by decide) ?_ | refine LT.partD rfl rfl (fun _ => ?_) (fun _ => ?_) | refine LT.partN rfl rfl (fun _ => ?_) (fun _ => ?_) | (refine LT.part1 rfl rfl (fun h => ?_) (fun h => ?_); (fail_if_success exact absurd h (by decide)); rotate_left; (fail_if_success exact absurd h (by decide)); rotate_left) | (apply HT.cons1; (first | exact arm57_1)) | (apply HT.guard1; rfl; rfl; rfl; (first | exact arm57_1)) | refine HT.skip1 rfl rfl rfl ?_ | refine HT.skip2 rfl rfl ?_ | refine HT.partD rfl rfl (fun _ => ?_) (fun _ => ?_) | refine HT.partN rfl rfl (fun _ => ?_) (fun _ => ?_) | (refine HT.part1 rfl rfl (fun h => ?_) (fun h => ?_); (fail_if_success exact absurd h (by decide)); rotate_left; (fail_if_success exact absurd h (by decide)); rotate_left))
  refine CT.loopX (fun k : Nat => (⟨[(2, .ptr 2 0), (3, .ptr 3 0), (4, .ptr 4 0), (6, .arow 14), (7, .arow 17), (8, .arow 20), (9, .val (.int .i64 (lastTo (mDif x y) k))), (10, .val (.int .i64 (cntTo (mDif x y) k : Nat))), (11, .val (.int .i64 k))],
      [(2, [.val (.int .u64 x.v.x), .val (.int .u64 x.v.y), .val (.int .u64 x.m.x), .val (.int .u64 x.m.y)]), (3, [.val (.int .u64 y.v.x), .val (.int .u64 y.v.y), .val (.int .u64 y.m.x), .val (.int .u64 y.m.y)]), (4, [.val (.int .u64 0), .val (.int .u64 0), .val (.int .u64 0), .val (.int .u64 0)])],
      [(14, ⟨4, 1, (bitsL (mV x k)).map encB⟩), (17, ⟨4, 1, (bitsL (abit x.m)).map encB⟩), (20, ⟨4, 1, (bitsL (abit y.v)).map encB⟩)]⟩ : St))
    (fun k => k ≤ 128) (fun k => 128 - k) 0 ?_ (by omega) ?_
  · rw [show bitsL (mV x 0) = bitsL (abit ⟨x.v.x, x.v.y⟩) from bitsL_congr fun i hi => by simp [mV]]
    (apply Sub.mk; (focus (repeat (first | exact .nil | refine .other (.keep rfl rfl) ?_ | refine .other (.aref rfl rfl rfl) ?_ | refine .other (.val rfl (by first | rfl | (congr 1; first | omega | assumption | (symm; assumption)) | (simp; omega))) ?_ | refine .other .dead ?_ | refine .other (.sl rfl (.row _ _ _ _) rfl) ?_ | refine .other (.sl rfl (.sl _ _) rfl) ?_ | refine .other (.sl rfl (.full _ _) rfl) ?_ | refine .other (.slNil rfl rfl) ?_ | refine .rowNil rfl rfl rfl ?_ | refine .row rfl (by first | rfl | assumption | (rw [← List.map_append]; first | done | rfl | congr 1)) rfl rfl ?_))); (focus (repeat (first | exact .nil | refine KeepB.same rfl rfl rfl ?_ | refine KeepB.sameA rfl rfl rfl ?_))); (focus (repeat (first | exact .nil | refine KeepA.cons rfl (by first | rfl | assumption | exact List.map_set | exact List.map_set.symm | (rw [← List.map_append]; first | done | rfl | congr 1) | (congr 1; first | omega | assumption)) ?_))))
  rintro k hk
  have hlv := bitsL_len (mV x k)
  have hlm := bitsL_len (abit x.m)
  have hlb := bitsL_len (abit y.v)
  have hcn := cntTo_le (mDif x y) k
  by_cases hlt : k < 128
  · have hgm : (bitsL (abit x.m))[k]'(by omega) = abit x.m k := bitsL_get _ hlt _
    have hgv : (bitsL (mV x k))[k]'(by omega) = abit x.v k := by rw [bitsL_get _ hlt]; simp [mV]
    have hgb : (bitsL (abit y.v))[k]'(by omega) = abit y.v k := bitsL_get _ hlt _
    have hst := mV_step x hlt
    obtain ⟨bm, em⟩ : ∃ b, abit x.m k = b := ⟨_, rfl⟩
    obtain ⟨bv, ev⟩ : ∃ b, abit x.v k = b := ⟨_, rfl⟩
    obtain ⟨bb, eb⟩ : ∃ b, abit y.v k = b := ⟨_, rfl⟩
    have am : ((bitsL (abit x.m)).map encB)[k]? = some [.bool bm] := by rw [List.getElem?_map, List.getElem?_eq_getElem (by omega), hgm, em]; rfl
    have av : ((bitsL (mV x k)).map encB)[k]? = some [.bool bv] := by rw [List.getElem?_map, List.getElem?_eq_getElem (by omega), hgv, ev]; rfl
    have ab : ((bitsL (abit y.v)).map encB)[k]? = some [.bool bb] := by rw [List.getElem?_map, List.getElem?_eq_getElem (by omega), hgb, eb]; rfl
    have hd : mDif x y k = (bm && (bv != bb)) := by unfold mDif; rw [em, ev, eb]
    rw [ev, em] at hst
    have hl : lastTo (mDif x y) (k + 1) = if (bm && (bv != bb)) = true then (k : Int) else lastTo (mDif x y) k := by simp only [lastTo, hd]
    have hc : cntTo (mDif x y) (k + 1) = cntTo (mDif x y) k + (bm && (bv != bb)).toNat := by simp only [cntTo, hd]
    clear hgm hgv hgb em ev eb hd
    cases bm <;> cases bv <;> cases bb
    all_goals
      simp at hl hc hst
      repeat' (first | refine CT.seqR ?_ | refine CT.seqD (id := 9) 14 (by kernel_rfl) (by kernel_rfl) ?_ | refine CT.draw (id := 9) 14 (by kernel_rfl) (by kernel_rfl) ?_ | refine CT.region ?_ | refine CT.seq1 ?_ | refine CT.block ?_ | refine CT.condT rfl ?_ | refine CT.condF rfl ?_ | refine CT.condD rfl (fun _ => ?_) (fun _ => ?_) | refine CT.condN rfl (fun _ => ?_) (fun _ => ?_) | refine CT.cond rfl (fun _ => ?_) (fun _ => ?_) | refine CT.skip ?_ | refine CT.exit ?_ | refine CT.ret ?_ | refine CT.goto ?_ | refine CT.label ?_ | refine LT.nil ?_ | refine HT.nil1 ?_ | (refine LT.consT ?_; (first | refine T.box (e := 59) (cs := [.val _, .val _, .val _, .val _]) rfl rfl (by decide) rfl rfl ?_ | refine T.alloc (e := 59) (z := .agg #[.int .u64 0, .int .u64 0, .int .u64 0, .int .u64 0]) (cs := [.val (.int .u64 0), .val (.int .u64 0), .val (.int .u64 0), .val (.int .u64 0)]) (by kernel_rfl) rfl (by decide) rfl rfl ?_ | refine T.storeA (t := 4) rfl rfl rfl rfl (map_at bd) (by kernel_rfl) (by kernel_rfl) (Nat.le_of_ble_eq_true (by kernel_rfl)) rfl rfl rfl ?_ | refine T.store (t := 4) rfl rfl rfl (by kernel_rfl) (by kernel_rfl) (Nat.le_of_ble_eq_true (by kernel_rfl)) rfl rfl ?_ | refine T.storeA (t := 59) rfl rfl rfl rfl (map_at bd) (by kernel_rfl) (by kernel_rfl) (Nat.le_of_ble_eq_true (by kernel_rfl)) rfl rfl rfl ?_ | refine T.store (t := 59) rfl rfl rfl (by kernel_rfl) (by kernel_rfl) (Nat.le_of_ble_eq_true (by kernel_rfl)) rfl rfl ?_)) | (apply LT.cons1; (first | exact OpH.loadA1 (t := 4) rfl rfl rfl am (by kernel_rfl) rfl rfl | exact OpH.loadA1 (t := 4) rfl rfl rfl av (by kernel_rfl) rfl rfl | exact OpH.loadA1 (t := 4) rfl rfl rfl ab (by kernel_rfl) rfl rfl | exact arm57_1); decide) | (apply LT.guard1; rfl; rfl; rfl; decide; (first | exact OpH.loadA1 (t := 4) rfl rfl rfl am (by kernel_rfl) rfl rfl | exact OpH.loadA1 (t := 4) rfl rfl rfl av (by kernel_rfl) rfl rfl | exact OpH.loadA1 (t := 4) rfl rfl rfl ab (by kernel_rfl) rfl rfl | exact arm57_1); decide) | refine LT.skip1 rfl rfl rfl (by decide) (by decide) ?_ | refine LT.skip2 rfl rfl (by decide) (by decide) ?_ | refine LT.partD rfl rfl (fun _ => ?_) (fun _ => ?_) | refine LT.partN rfl rfl (fun _ => ?_) (fun _ => ?_) | (refine LT.part1 rfl rfl (fun h => ?_) (fun h => ?_); (fail_if_success exact absurd h (by decide)); rotate_left; (fail_if_success exact absurd h (by decide)); rotate_left) | (apply HT.cons1; (first | exact OpH.loadA1 (t := 4) rfl rfl rfl am (by kernel_rfl) rfl rfl | exact OpH.loadA1 (t := 4) rfl rfl rfl av (by kernel_rfl) rfl rfl | exact OpH.loadA1 (t := 4) rfl rfl rfl ab (by kernel_rfl) rfl rfl | exact arm57_1)) | (apply HT.guard1; rfl; rfl; rfl; (first | exact OpH.loadA1 (t := 4) rfl rfl rfl am (by kernel_rfl) rfl rfl | exact OpH.loadA1 (t := 4) rfl rfl rfl av (by kernel_rfl) rfl rfl | exact OpH.loadA1 (t := 4) rfl rfl rfl ab (by kernel_rfl) rfl rfl | exact arm57_1)) | refine HT.skip1 rfl rfl rfl ?_ | refine HT.skip2 rfl rfl ?_ | refine HT.partD rfl rfl (fun _ => ?_) (fun _ => ?_) | refine HT.partN rfl rfl (fun _ => ?_) (fun _ => ?_) | (refine HT.part1 rfl rfl (fun h => ?_) (fun h => ?_); (fail_if_success exact absurd h (by decide)); rotate_left; (fail_if_success exact absurd h (by decide)); rotate_left))
      refine ⟨k + 1, by omega, by omega, ?_⟩
      rw [hl, hc, ← hst]
      (apply Sub.mk; (focus (repeat (first | exact .nil | refine .other (.keep rfl rfl) ?_ | refine .other (.aref rfl rfl rfl) ?_ | refine .other (.val rfl (by first | rfl | (congr 1; first | omega | assumption | (symm; assumption)) | (simp; omega))) ?_ | refine .other .dead ?_ | refine .other (.sl rfl (.row _ _ _ _) rfl) ?_ | refine .other (.sl rfl (.sl _ _) rfl) ?_ | refine .other (.sl rfl (.full _ _) rfl) ?_ | refine .other (.slNil rfl rfl) ?_ | refine .rowNil rfl rfl rfl ?_ | refine .row rfl (by first | rfl | assumption | (rw [← List.map_append]; first | done | rfl | congr 1)) rfl rfl ?_))); (focus (repeat (first | exact .nil | refine KeepB.same rfl rfl rfl ?_ | refine KeepB.sameA rfl rfl rfl ?_))); (focus (repeat (first | exact .nil | refine KeepA.cons rfl (by first | rfl | assumption | exact List.map_set | exact List.map_set.symm | (rw [← List.map_append]; first | done | rfl | congr 1) | (congr 1; first | omega | assumption)) ?_))))
  · obtain rfl : k = 128 := by omega
    by_cases hm : x.m = y.m
    · have hm' : (⟨x.m.x, x.m.y⟩ : A2) = ⟨y.m.x, y.m.y⟩ := hm
      by_cases ho : cntTo (mDif x y) 128 = 1
      · have hI : rMergeIs x y = true := by unfold rMergeIs; rw [decide_eq_true hm, decide_eq_true ho]; rfl
        obtain ⟨kk, hk1, hk2, hk3, hk4⟩ := lastTo_one 128 ho
        have hW : rMergeW x y = ⟨words fun i => mV x 128 i && !decide (i = kk), words fun i => abit x.m i && !decide (i = kk)⟩ := by
          unfold rMergeW; rw [if_pos hI, hk2]; simp only [Int.natCast_inj]
        have hsv : (bitsL (mV x 128)).set kk false = bitsL fun i => mV x 128 i && !decide (i = kk) := bitsL_set _ _ hk1 fun i hi => by
          by_cases e : i = kk <;> simp [e]
        have hsm : (bitsL (abit x.m)).set kk false = bitsL fun i => abit x.m i && !decide (i = kk) := bitsL_set _ _ hk1 fun i hi => by
          by_cases e : i = kk <;> simp [e]
        rw [hk2, ho]
        repeat' (first | refine CT.seqR ?_ | refine CT.seqD (id := 9) 14 (by kernel_rfl) (by kernel_rfl) ?_ | refine CT.draw (id := 9) 14 (by kernel_rfl) (by kernel_rfl) ?_ | refine CT.region ?_ | refine CT.seq1 ?_ | refine CT.block ?_ | refine CT.condT rfl ?_ | refine CT.condF rfl ?_ | refine CT.condD rfl (fun _ => ?_) (fun _ => ?_) | refine CT.condN rfl (fun _ => ?_) (fun _ => ?_) | refine CT.cond rfl (fun _ => ?_) (fun _ => ?_) | refine CT.skip ?_ | refine CT.exit ?_ | refine CT.ret ?_ | refine CT.goto ?_ | refine CT.label ?_ | refine LT.nil ?_ | refine HT.nil1 ?_ | (refine LT.consT ?_; (first | refine T.box (e := 59) (cs := [.val _, .val _, .val _, .val _]) rfl rfl (by decide) rfl rfl ?_ | refine T.alloc (e := 59) (z := .agg #[.int .u64 0, .int .u64 0, .int .u64 0, .int .u64 0]) (cs := [.val (.int .u64 0), .val (.int .u64 0), .val (.int .u64 0), .val (.int .u64 0)]) (by kernel_rfl) rfl (by decide) rfl rfl ?_ | refine T.storeA (t := 4) rfl rfl rfl rfl (map_at bd) (by kernel_rfl) (by kernel_rfl) (Nat.le_of_ble_eq_true (by kernel_rfl)) rfl rfl rfl ?_ | refine T.store (t := 4) rfl rfl rfl (by kernel_rfl) (by kernel_rfl) (Nat.le_of_ble_eq_true (by kernel_rfl)) rfl rfl ?_ | refine T.storeA (t := 59) rfl rfl rfl rfl (map_at bd) (by kernel_rfl) (by kernel_rfl) (Nat.le_of_ble_eq_true (by kernel_rfl)) rfl rfl rfl ?_ | refine T.store (t := 59) rfl rfl rfl (by kernel_rfl) (by kernel_rfl) (Nat.le_of_ble_eq_true (by kernel_rfl)) rfl rfl ?_)) | (apply LT.cons1; (first | exact arm57_1); decide) | (apply LT.guard1; rfl; rfl; rfl; decide; (first | exact arm57_1); decide) | refine LT.skip1 rfl rfl rfl (by decide) (by decide) ?_ | refine LT.skip2 rfl rfl (by decide) (by decide) ?_ | refine LT.partD rfl rfl (fun _ => ?_) (fun _ => ?_) | refine LT.partN rfl rfl (fun _ => ?_) (fun _ => ?_) | (refine LT.part1 rfl rfl (fun h => ?_) (fun h => ?_); (fail_if_success exact absurd h (by decide)); rotate_left; (fail_if_success exact absurd h (by decide)); rotate_left) | (apply HT.cons1; (first | exact arm57_1)) | (apply HT.guard1; rfl; rfl; rfl; (first | exact arm57_1)) | refine HT.skip1 rfl rfl rfl ?_ | refine HT.skip2 rfl rfl ?_ | refine HT.partD rfl rfl (fun _ => ?_) (fun _ => ?_) | refine HT.partN rfl rfl (fun _ => ?_) (fun _ => ?_) | (refine HT.part1 rfl rfl (fun h => ?_) (fun h => ?_); (fail_if_success exact absurd h (by decide)); rotate_left; (fail_if_success exact absurd h (by decide)); rotate_left))
        refine LT.sub (S' := ⟨[(72, .arow 14), (4, .ptr 4 0), (7, .arow 17)], [(4, [.val (.int .u64 0), .val (.int .u64 0), .val (.int .u64 0), .val (.int .u64 0)])],
          [(14, ⟨4, 1, (bitsL fun i => mV x 128 i && !decide (i = kk)).map encB⟩), (17, ⟨4, 1, (bitsL fun i => abit x.m i && !decide (i = kk)).map encB⟩)]⟩) ?_ ?_
        · rw [← hsv, ← hsm]
          (apply Sub.mk; (focus (repeat (first | exact .nil | refine .other (.keep rfl rfl) ?_ | refine .other (.aref rfl rfl rfl) ?_ | refine .other (.val rfl (by first | rfl | (congr 1; first | omega | assumption | (symm; assumption)) | (simp; omega))) ?_ | refine .other .dead ?_ | refine .other (.sl rfl (.row _ _ _ _) rfl) ?_ | refine .other (.sl rfl (.sl _ _) rfl) ?_ | refine .other (.sl rfl (.full _ _) rfl) ?_ | refine .other (.slNil rfl rfl) ?_ | refine .rowNil rfl rfl rfl ?_ | refine .row rfl (by first | rfl | assumption | (rw [← List.map_append]; first | done | rfl | congr 1)) rfl rfl ?_))); (focus (repeat (first | exact .nil | refine KeepB.same rfl rfl rfl ?_ | refine KeepB.sameA rfl rfl rfl ?_))); (focus (repeat (first | exact .nil | refine KeepA.cons rfl (by first | rfl | assumption | exact List.map_set | exact List.map_set.symm | (rw [← List.map_append]; first | done | rfl | congr 1) | (congr 1; first | omega | assumption)) ?_))))
        repeat' (first | refine CT.seqR ?_ | refine CT.seqD (id := 9) 14 (by kernel_rfl) (by kernel_rfl) ?_ | refine CT.draw (id := 9) 14 (by kernel_rfl) (by kernel_rfl) ?_ | refine CT.region ?_ | refine CT.seq1 ?_ | refine CT.block ?_ | refine CT.condT rfl ?_ | refine CT.condF rfl ?_ | refine CT.condD rfl (fun _ => ?_) (fun _ => ?_) | refine CT.condN rfl (fun _ => ?_) (fun _ => ?_) | refine CT.cond rfl (fun _ => ?_) (fun _ => ?_) | refine CT.skip ?_ | refine CT.exit ?_ | refine CT.ret ?_ | refine CT.goto ?_ | refine CT.label ?_ | refine LT.nil ?_ | refine HT.nil1 ?_ | (refine LT.consT ?_; (first | refine T.box (e := 59) (cs := [.val _, .val _, .val _, .val _]) rfl rfl (by decide) rfl rfl ?_ | refine T.alloc (e := 59) (z := .agg #[.int .u64 0, .int .u64 0, .int .u64 0, .int .u64 0]) (cs := [.val (.int .u64 0), .val (.int .u64 0), .val (.int .u64 0), .val (.int .u64 0)]) (by kernel_rfl) rfl (by decide) rfl rfl ?_ | refine T.storeA (t := 4) rfl rfl rfl rfl (map_at bd) (by kernel_rfl) (by kernel_rfl) (Nat.le_of_ble_eq_true (by kernel_rfl)) rfl rfl rfl ?_ | refine T.store (t := 4) rfl rfl rfl (by kernel_rfl) (by kernel_rfl) (Nat.le_of_ble_eq_true (by kernel_rfl)) rfl rfl ?_ | refine T.storeA (t := 59) rfl rfl rfl rfl (map_at bd) (by kernel_rfl) (by kernel_rfl) (Nat.le_of_ble_eq_true (by kernel_rfl)) rfl rfl rfl ?_ | refine T.store (t := 59) rfl rfl rfl (by kernel_rfl) (by kernel_rfl) (Nat.le_of_ble_eq_true (by kernel_rfl)) rfl rfl ?_)) | (apply LT.cons1; (first | exact OpH.callL Try.func82 rfl rfl rfl (g_Words _ (bitsL_len _)) | exact arm57_1); decide) | (apply LT.guard1; rfl; rfl; rfl; decide; (first | exact OpH.callL Try.func82 rfl rfl rfl (g_Words _ (bitsL_len _)) | exact arm57_1); decide) | refine LT.skip1 rfl rfl rfl (by decide) (by decide) ?_ | refine LT.skip2 rfl rfl (by decide) (by decide) ?_ | refine LT.partD rfl rfl (fun _ => ?_) (fun _ => ?_) | refine LT.partN rfl rfl (fun _ => ?_) (fun _ => ?_) | (refine LT.part1 rfl rfl (fun h => ?_) (fun h => ?_); (fail_if_success exact absurd h (by decide)); rotate_left; (fail_if_success exact absurd h (by decide)); rotate_left) | (apply HT.cons1; (first | exact OpH.callL Try.func82 rfl rfl rfl (g_Words _ (bitsL_len _)) | exact arm57_1)) | (apply HT.guard1; rfl; rfl; rfl; (first | exact OpH.callL Try.func82 rfl rfl rfl (g_Words _ (bitsL_len _)) | exact arm57_1)) | refine HT.skip1 rfl rfl rfl ?_ | refine HT.skip2 rfl rfl ?_ | refine HT.partD rfl rfl (fun _ => ?_) (fun _ => ?_) | refine HT.partN rfl rfl (fun _ => ?_) (fun _ => ?_) | (refine HT.part1 rfl rfl (fun h => ?_) (fun h => ?_); (fail_if_success exact absurd h (by decide)); rotate_left; (fail_if_success exact absurd h (by decide)); rotate_left))
        refine ⟨by first | exact .inl rfl | exact .inr rfl, _, (.cons (.many 4 (vs := [_, _, _, _]) rfl rfl (by kernel_rfl) rfl rfl) (.cons (.tmp 5 (A := .val _) rfl (fun _ h => by cases h)) .nil)), ?_, rfl⟩
        rw [hW, hI, words_bitsL, words_bitsL]
        rfl
      · have hI : rMergeIs x y = false := by unfold rMergeIs; rw [decide_eq_false ho, Bool.and_false]
        repeat' (first | refine CT.seqR ?_ | refine CT.seqD (id := 9) 14 (by kernel_rfl) (by kernel_rfl) ?_ | refine CT.draw (id := 9) 14 (by kernel_rfl) (by kernel_rfl) ?_ | refine CT.region ?_ | refine CT.seq1 ?_ | refine CT.block ?_ | refine CT.condT rfl ?_ | refine CT.condF rfl ?_ | refine CT.condD rfl (fun _ => ?_) (fun _ => ?_) | refine CT.condN rfl (fun _ => ?_) (fun _ => ?_) | refine CT.cond rfl (fun _ => ?_) (fun _ => ?_) | refine CT.skip ?_ | refine CT.exit ?_ | refine CT.ret ?_ | refine CT.goto ?_ | refine CT.label ?_ | refine LT.nil ?_ | refine HT.nil1 ?_ | (refine LT.consT ?_; (first | refine T.box (e := 59) (cs := [.val _, .val _, .val _, .val _]) rfl rfl (by decide) rfl rfl ?_ | refine T.alloc (e := 59) (z := .agg #[.int .u64 0, .int .u64 0, .int .u64 0, .int .u64 0]) (cs := [.val (.int .u64 0), .val (.int .u64 0), .val (.int .u64 0), .val (.int .u64 0)]) (by kernel_rfl) rfl (by decide) rfl rfl ?_ | refine T.storeA (t := 4) rfl rfl rfl rfl (map_at bd) (by kernel_rfl) (by kernel_rfl) (Nat.le_of_ble_eq_true (by kernel_rfl)) rfl rfl rfl ?_ | refine T.store (t := 4) rfl rfl rfl (by kernel_rfl) (by kernel_rfl) (Nat.le_of_ble_eq_true (by kernel_rfl)) rfl rfl ?_ | refine T.storeA (t := 59) rfl rfl rfl rfl (map_at bd) (by kernel_rfl) (by kernel_rfl) (Nat.le_of_ble_eq_true (by kernel_rfl)) rfl rfl rfl ?_ | refine T.store (t := 59) rfl rfl rfl (by kernel_rfl) (by kernel_rfl) (Nat.le_of_ble_eq_true (by kernel_rfl)) rfl rfl ?_)) | (apply LT.cons1; (first | exact arm57_1); decide) | (apply LT.guard1; rfl; rfl; rfl; decide; (first | exact arm57_1); decide) | refine LT.skip1 rfl rfl rfl (by decide) (by decide) ?_ | refine LT.skip2 rfl rfl (by decide) (by decide) ?_ | refine LT.partD rfl rfl (fun _ => ?_) (fun _ => ?_) | refine LT.partN rfl rfl (fun _ => ?_) (fun _ => ?_) | (refine LT.part1 rfl rfl (fun h => ?_) (fun h => ?_); (fail_if_success exact absurd h (by decide)); rotate_left; (fail_if_success exact absurd h (by decide)); rotate_left) | (apply HT.cons1; (first | exact arm57_1)) | (apply HT.guard1; rfl; rfl; rfl; (first | exact arm57_1)) | refine HT.skip1 rfl rfl rfl ?_ | refine HT.skip2 rfl rfl ?_ | refine HT.partD rfl rfl (fun _ => ?_) (fun _ => ?_) | refine HT.partN rfl rfl (fun _ => ?_) (fun _ => ?_) | (refine HT.part1 rfl rfl (fun h => ?_) (fun h => ?_); (fail_if_success exact absurd h (by decide)); rotate_left; (fail_if_success exact absurd h (by decide)); rotate_left))
        refine ⟨by first | exact .inl rfl | exact .inr rfl, _, (.cons (.many 4 (vs := [_, _, _, _]) rfl rfl (by kernel_rfl) rfl rfl) (.cons (.tmp 5 (A := .val _) rfl (fun _ h => by cases h)) .nil)), ?_, rfl⟩
        unfold rMergeW
        rw [hI]
        rfl
    · have hm' : ¬ (⟨x.m.x, x.m.y⟩ : A2) = ⟨y.m.x, y.m.y⟩ := fun h => hm h
      have hI : rMergeIs x y = false := by unfold rMergeIs; rw [decide_eq_false hm, Bool.false_and]
      repeat' (first | refine CT.seqR ?_ | refine CT.seqD (id := 9) 14 (by kernel_rfl) (by kernel_rfl) ?_ | refine CT.draw (id := 9) 14 (by kernel_rfl) (by kernel_rfl) ?_ | refine CT.region ?_ | refine CT.seq1 ?_ | refine CT.block ?_ | refine CT.condT rfl ?_ | refine CT.condF rfl ?_ | refine CT.condD rfl (fun _ => ?_) (fun _ => ?_) | refine CT.condN rfl (fun _ => ?_) (fun _ => ?_) | refine CT.cond rfl (fun _ => ?_) (fun _ => ?_) | refine CT.skip ?_ | refine CT.exit ?_ | refine CT.ret ?_ | refine CT.goto ?_ | refine CT.label ?_ | refine LT.nil ?_ | refine HT.nil1 ?_ | (refine LT.consT ?_; (first | refine T.box (e := 59) (cs := [.val _, .val _, .val _, .val _]) rfl rfl (by decide) rfl rfl ?_ | refine T.alloc (e := 59) (z := .agg #[.int .u64 0, .int .u64 0, .int .u64 0, .int .u64 0]) (cs := [.val (.int .u64 0), .val (.int .u64 0), .val (.int .u64 0), .val (.int .u64 0)]) (by kernel_rfl) rfl (by decide) rfl rfl ?_ | refine T.storeA (t := 4) rfl rfl rfl rfl (map_at bd) (by kernel_rfl) (by kernel_rfl) (Nat.le_of_ble_eq_true (by kernel_rfl)) rfl rfl rfl ?_ | refine T.store (t := 4) rfl rfl rfl (by kernel_rfl) (by kernel_rfl) (Nat.le_of_ble_eq_true (by kernel_rfl)) rfl rfl ?_ | refine T.storeA (t := 59) rfl rfl rfl rfl (map_at bd) (by kernel_rfl) (by kernel_rfl) (Nat.le_of_ble_eq_true (by kernel_rfl)) rfl rfl rfl ?_ | refine T.store (t := 59) rfl rfl rfl (by kernel_rfl) (by kernel_rfl) (Nat.le_of_ble_eq_true (by kernel_rfl)) rfl rfl ?_)) | (apply LT.cons1; (first | exact arm57_1); decide) | (apply LT.guard1; rfl; rfl; rfl; decide; (first | exact arm57_1); decide) | refine LT.skip1 rfl rfl rfl (by decide) (by decide) ?_ | refine LT.skip2 rfl rfl (by decide) (by decide) ?_ | refine LT.partD rfl rfl (fun _ => ?_) (fun _ => ?_) | refine LT.partN rfl rfl (fun _ => ?_) (fun _ => ?_) | (refine LT.part1 rfl rfl (fun h => ?_) (fun h => ?_); (fail_if_success exact absurd h (by decide)); rotate_left; (fail_if_success exact absurd h (by decide)); rotate_left) | (apply HT.cons1; (first | exact arm57_1)) | (apply HT.guard1; rfl; rfl; rfl; (first | exact arm57_1)) | refine HT.skip1 rfl rfl rfl ?_ | refine HT.skip2 rfl rfl ?_ | refine HT.partD rfl rfl (fun _ => ?_) (fun _ => ?_) | refine HT.partN rfl rfl (fun _ => ?_) (fun _ => ?_) | (refine HT.part1 rfl rfl (fun h => ?_) (fun h => ?_); (fail_if_success exact absurd h (by decide)); rotate_left; (fail_if_success exact absurd h (by decide)); rotate_left))
      refine ⟨by first | exact .inl rfl | exact .inr rfl, _, (.cons (.many 4 (vs := [_, _, _, _]) rfl rfl (by kernel_rfl) rfl rfl) (.cons (.tmp 5 (A := .val _) rfl (fun _ h => by cases h)) .nil)), ?_, rfl⟩
      unfold rMergeW
      rw [hI]
      rfl
end Go.Proofs.Ytjibochjmmehcaa
