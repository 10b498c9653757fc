/- law13.awake. -/
import Derived.Test.YtjmnnkhdadoehaaGreatYCaoZ
import Derived.Test.YtjmnnkhdadoehaaGreatYMergeF
import Derived.Test.YtjmnnkhdadoehaaGreatYWalkT
import Derived.Test.YtjmnnkhdadoehaaGreatYOpen
import Derived.Test.YtjmnnkhdadoehaaGreatYAbs8
namespace Go.Proofs.YtjmnnkhdadoehaaGreat
set_option linter.unusedSimpArgs false
set_option linter.unusedVariables false
open Go Go.RowKit Go.Shelf
attribute [local irreducible] OpH OpT LT CT HT Good
end Go.Proofs.YtjmnnkhdadoehaaGreat

/- slices.Clone at slots; bank.May, bank.Apply of one write. -/
namespace Go.Proofs.YtjmnnkhdadoehaaGreat
set_option linter.unusedSimpArgs false
set_option linter.unusedVariables false
open Go Go.RowKit Go.Shelf
theorem lenS (x : Slt) : (encS x).length = 7 := rfl
theorem posS (x : Slt) : encS x ≠ [] := by simp [encS]
theorem oneS (x : Slt) : ∀ u ∈ encS x, u.oneCell' = true := by
  intro u hu
  simp only [encS, List.mem_cons, List.not_mem_nil, or_false] at hu
  rcases hu with rfl | rfl | rfl | rfl | rfl | rfl | rfl <;> rfl
end Go.Proofs.YtjmnnkhdadoehaaGreat
namespace Go.Proofs.YtjmnnkhdadoehaaGreat
set_option linter.unusedSimpArgs false
set_option linter.unusedVariables false
open Go.RowKit
attribute [local go_sem high] eql_25 neq_25 eql_44 neq_62 eql_48 eql_50
attribute [local go_sem] eqg_25 eqg_62 eqg_48 eqg_50 cell_grew frozen_grew size_grew grew_grew lt_addk Instr.field asAgg lt_gi_k
set_option maxRecDepth 100000 in
set_option maxHeartbeats 4000000 in
theorem c_CloneS (A : Option Addr) (c : Nat) (xs : List Slt) (w : World) (hnil : A = none → c = 0) (hr : Reads encS 7 w A xs) (hm : xs.length ≤ 65536) :
    Calls Tryz.prog 43 #[.slice A xs.length c] w fun e w' => ∃ v, e = .returned v ∧ w'.ownsRow w.heap.size 48 7 v xs.length (xs.flatMap encS) ∧ Below w.heap.size w w' := by
  have q22 : ∀ (w : World) (a : Option Addr) (n c n' c' : Nat), (binOp .eql 30 (.slice a n c) (.slice none n' c')).run Tryz.prog w = .ok (.bool a.isNone) w := fun w a n c n' c' => Lib.run_eql_slice_nil w _ _ a n c n' c' Tryz.underlying30
  cases A with
  | none =>
    obtain rfl : xs = [] := by
      cases xs with
      | nil => rfl
      | cons y ys => obtain ⟨_, _, e2, _⟩ := hr.2 0 y rfl; cases e2
    obtain rfl := hnil rfl
    go_enter Tryz.func43, Tryz.ntmps43
    go_wp2
    go_ret
    exact ⟨_, rfl, World.ownsRow_nil _ _ _ _, Below.refl _ _⟩
  | some ad =>
    go_enter Tryz.func43, Tryz.ntmps43
    go_wp2_with (at_builtin; refine app_row (enc := encS) (e := 48) (n := 0) w.heap.size 7 56 (.agg #[.bool false, .int .u64 0, .int .u64 0, .int .u64 0, .int .u64 0, .int .i64 0, .int .i64 0]) (by kernel_rfl) (by kernel_rfl) rfl (by omega) (fun _ => rfl) oneS rfl rfl [] rfl xs rfl rfl ?rdt (fun h => (by cases h)) ?owt (by omega) ?bat (by omega) ?_)
    case rdt => exact hr.alloc _
    case owt =>
      refine own_lit (k := 7) (fun _ => rfl) 48 w.heap.size [] rfl (Nat.le_refl _) rfl (by simp) rfl
    case bat => simp
    intro v1 w1 hown hg
    have hB : Below w.heap.size w w1 := below_own' ((Below.refl _ _).alloc (Nat.le_refl _) _) (by simp) hg (by intro b hb; cases hb; exact Nat.le_refl _)
    clear hg
    go_wp2
    go_ret
    exact ⟨v1, rfl, by simpa using hown, hB⟩
end Go.Proofs.YtjmnnkhdadoehaaGreat
namespace Go.Proofs.YtjmnnkhdadoehaaGreat
set_option linter.unusedSimpArgs false
set_option linter.unusedVariables false
open Go Go.RowKit Go.Shelf
attribute [local irreducible] OpH OpT LT CT HT Good
theorem g_CloneS (xs : List Slt) (hm : xs.length ≤ 65536) : Good Tryz.prog 43 [.sl 7 (xs.map encS)] (.row 0 48 7 (xs.map encS)) :=
  Good.slRow (args := []) posS lenS oneS rfl fun A c w _ hn h => c_CloneS A c xs w hn h hm
end Go.Proofs.YtjmnnkhdadoehaaGreat

/- plo.Kept, plo.Gap; CaoLengths: the walk. -/
namespace Go.Proofs.YtjmnnkhdadoehaaGreat
set_option linter.unusedSimpArgs false
set_option linter.unusedVariables false
open Go Go.RowKit Go.Shelf
section
variable {P : Program} {N : Nat} {K0 : Know} {w0 : Bas} {S : St} {d : Option Nat} {ty : TypeId} {pos : String} {aft : Array Edge} {g : Option (Nat × Bool)} {x : Operand}
theorem OpH.callV {f : FuncId} {fn : Func} {c : Code} {args : Array Operand} {ats : Array TypeId} {As : List AV} {res : AV} (h0 : S.opv x = .val (.func (.func f) #[] #[])) (hf : P.funcs[f]? = some fn) (hname : (fn.name == "runtime.NumGoroutine") = false) (hb : fn.body = some c)
    (hargs : (args.toList.map fun x => (S.opv x).arg) = As) (hg : Good P f As res) (hp : res.plain = true) : OpH P N K0 w0 ⟨d, .call { callee := .value x, args := args, argTypes := ats }, ty, pos, aft, g⟩ S res := by
  subst hargs
  intro S' K n a w hs hB hop
  have hx := hs.opv x
  rw [hop x (by simp [Op.operands, Call.operands]), h0] at hx
  have hargsOf : ∀ y ∈ args.toList, S'.opv y = S.opv y := fun y hy => hop y (by simp only [Op.operands, Call.operands]; simp; right; simpa using hy)
  have key : ∀ {R : Ending → World → Prop}, Calls P f (args.toList.map a.eval).toArray w R → Calls P f ((args.toList.map a.eval).toArray ++ #[]) w R := fun h => by simpa using h
  refine upon_enter_calls (call_runD hf hname hb hx w) (key (hg K w (args.toList.map a.eval) hs.ok (by simp) fun i B cv hBi hci => ?_)) ?_
  · rw [List.getElem?_map, Option.map_eq_some_iff] at hBi hci
    obtain ⟨y, hy, rfl⟩ := hBi
    obtain ⟨y', hy', rfl⟩ := hci
    rw [hy] at hy'
    injection hy' with hy'
    subst hy'
    have h1 := hs.opv y
    rw [hargsOf y (List.mem_of_getElem? hy)] at h1
    exact (AV.arg_of (S.opv y)).rep h1
  · rintro e w' ⟨c, K', rfl, h1, h2, h3, h4, ρ, h5, _⟩
    exact ⟨c, rfl, c, K', rfl, h1, h2, h3, h4, h5.plain hp, fun r e k xs hr => absurd hr (AV.plain_row hp r e k xs)⟩
end
theorem cmpInt_lt0 (a b : Int) : cmpInt a b < 0 ↔ a < b := by
  unfold cmpInt
  repeat' split
  all_goals omega
def AdjL (xs : List Ent) : Prop := ∀ i, 0 < i → i < xs.length → (nth xs i).len ≤ (nth xs (i - 1)).len
theorem adj_pw {xs : List Ent} (h : AdjL xs) : xs.Pairwise fun x y => y.len ≤ x.len := by
  refine List.pairwise_iff_getElem.2 fun i j hi hj hij => ?_
  suffices H : ∀ d (hd : i + 1 + d < xs.length), (xs[i + 1 + d]).len ≤ xs[i].len by
    have := H (j - i - 1) (by omega)
    simpa only [show i + 1 + (j - i - 1) = j by omega] using this
  intro d
  induction d with
  | zero =>
    intro hd
    have := h (i + 1) (by omega) hd
    rw [nth_at _ hd, nth_at _ (by omega)] at this
    simpa using this
  | succ d ih =>
    intro hd
    have h1 := ih (by omega)
    have h2 := h (i + 1 + (d + 1)) (by omega) hd
    rw [nth_at _ hd, nth_at _ (by omega)] at h2
    have e : xs[i + 1 + (d + 1) - 1]'(by omega) = xs[i + 1 + d]'(by omega) := by congr 1
    rw [e] at h2
    omega
theorem adj_ordered {xs : List Ent} (h : AdjL xs) : ordered xs = true := by
  rw [ordered_pw]
  refine (adj_pw h).imp fun {x y} hxy => ?_
  unfold eAbove
  rw [decide_eq_false (by omega), Bool.false_and]
def fL (l : List Slt) (n : Int) : Nat → Int
  | 0 => 0
  | k + 1 => if (nth l k).valid = true ∧ n < (nth l k).e.len then (k : Int) + 1 else fL l n k
def tL (l : List Slt) (n : Int) : Nat → Int
  | 0 => l.length
  | k + 1 => if (nth l k).valid = true ∧ (nth l k).e.len < n then (if (k : Int) < tL l n k then (k : Int) else tL l n k) else tL l n k
theorem fL_ge (l : List Slt) (n : Int) : ∀ k, 0 ≤ fL l n k ∧ fL l n k ≤ k ∧ ∀ j, j < k → (nth l j).valid = true → n < (nth l j).e.len → (j : Int) + 1 ≤ fL l n k
  | 0 => ⟨Int.le_refl _, Int.le_refl _, fun j h => by omega⟩
  | k + 1 => by
    obtain ⟨h1, h2, h3⟩ := fL_ge l n k
    simp only [fL]
    by_cases c : (nth l k).valid = true ∧ n < (nth l k).e.len
    · rw [if_pos c]
      exact ⟨by omega, by omega, fun j hj _ _ => by omega⟩
    · rw [if_neg c]
      refine ⟨h1, by omega, fun j hj hv hn => ?_⟩
      by_cases e : j = k
      · subst e; exact absurd ⟨hv, hn⟩ c
      · exact h3 j (by omega) hv hn
theorem tL_le (l : List Slt) (n : Int) : ∀ k, 0 ≤ tL l n k ∧ tL l n k ≤ l.length ∧ ∀ j, j < k → (nth l j).valid = true → (nth l j).e.len < n → tL l n k ≤ j
  | 0 => ⟨by simp [tL], Int.le_refl _, fun j h => by omega⟩
  | k + 1 => by
    obtain ⟨h1, h2, h3⟩ := tL_le l n k
    simp only [tL]
    by_cases c : (nth l k).valid = true ∧ (nth l k).e.len < n
    · rw [if_pos c]
      refine ⟨by split <;> omega, by split <;> omega, fun j hj hv hn => ?_⟩
      by_cases e : j = k
      · subst e; split <;> omega
      · have := h3 j (by omega) hv hn
        split <;> omega
    · rw [if_neg c]
      refine ⟨h1, h2, fun j hj hv hn => ?_⟩
      by_cases e : j = k
      · subst e; exact absurd ⟨hv, hn⟩ c
      · exact h3 j (by omega) hv hn
attribute [local irreducible] OpH OpT LT CT HT Good
theorem arm105_1 {p : Prop} (h : p := by first | exact fm0 | exact fm25 | exact fm16 | exact fm50 | exact OpH.callF Tryz.func101 rfl rfl rfl (g_cmpInt _ _) rfl | fail) : p := h
set_option maxRecDepth 100000 in
set_option maxHeartbeats 2000000 in
theorem g_ploKept1 (x y : Ent) : Good Tryz.prog 105 [.val (.agg #[.int .u64 x.w.v.x, .int .u64 x.w.v.y, .int .u64 x.w.m.x, .int .u64 x.w.m.y, .int .i64 x.len, .int .i64 x.act]), .val (.agg #[.int .u64 y.w.v.x, .int .u64 y.w.v.y, .int .u64 y.w.m.x, .int .u64 y.w.m.y, .int .i64 y.len, .int .i64 y.act])] (.val (.int .i64 (cmpInt y.len x.len))) := by
  have gC := g_cmpInt y.len x.len
  refine Good.of_body (T := [(0, _), (1, _)]) Tryz.func105 rfl rfl rfl ?_
  intro K0 w0 hno
  repeat' (first | (apply LT.cons1; (first | exact OpH.callF Tryz.func101 rfl rfl rfl gC rfl); (try decide)) | (refine LT.consT ?_; (first | refine T.box (e := 46) (cs := [.val _, .val _, .val _, .val _, .val _, .val _]) rfl rfl (by decide) rfl rfl ?_)) | (apply LT.cons1; exact arm105_1; (try decide)) | refine stp ?_ | (refine stq ?_ ?_ <;> intro _))
  refine ⟨by first | exact .inl rfl | exact .inr rfl, _, (.cons (.tmp 4 (A := .val _) rfl (fun _ h => by cases h)) .nil), ?_, rfl⟩
  rfl
theorem arm106_1 {p : Prop} (h : p := by first | exact fm0 | exact fm53 | exact fm44 | exact fm8 | exact fm9 | exact fm3 | exact fm39 | exact fm63 | exact fm6 | fail) : p := h
theorem stpLawCLengths_1 {G G' : Prop} (h' : G') (h : Hidd G' → G := by (first | (intro h; (first | refine CT.seqD (id := 4) 11 (by kernel_rfl) (by kernel_rfl) ?_ | refine CT.draw (id := 4) 11 (by kernel_rfl) (by kernel_rfl) ?_ | ((first | apply LT.cons1 | apply HT.cons1); exact arm106_1; (try decide))); exact h.1) | fail)) : G := h ⟨h'⟩
set_option maxRecDepth 100000 in
set_option maxHeartbeats 2000000 in
theorem g_IsSorted (xs : List Ent) (b : Bool) (hb : b = true ↔ AdjL xs) (hl : xs.length ≤ 65536) : Good Tryz.prog 106 [.sl 6 (xs.map encE), .val (.func (.func 105) #[] #[])] (.val (.bool b)) := by
  refine Good.of_body (T := [(0, _), (1, _)]) Tryz.func106 rfl rfl rfl ?_
  intro K0 w0 hno
  repeat' (first | refine stpLawCLengths_1 ?_ | refine stp ?_ | (refine stq ?_ ?_ <;> intro _))
  refine CT.loopX (fun i : Int => (⟨[(0, .sl 6 (xs.map encE)), (1, .val (.func (.func 105) #[] #[])), (5, .val (.int .i64 i))], [], []⟩ : St))
    (fun i => -1 ≤ i ∧ i < xs.length ∧ ∀ j : Nat, i < j → 0 < j → j < xs.length → (nth xs j).len ≤ (nth xs (j - 1)).len) (fun i => (i + 1).toNat) ((xs.length : Int) - 1) ?_ ⟨by omega, by omega, fun j h1 h2 h3 => by omega⟩ ?_
  · exact subT
  rintro i ⟨h1, h2, h3⟩
  by_cases hpos : 0 < i
  · obtain ⟨k, rfl⟩ : ∃ k : Nat, i = (k : Int) + 1 := ⟨(i - 1).toNat, by omega⟩
    have k1 : k + 1 < xs.length := by omega
    have k0 : k < xs.length := by omega
    have gK := g_ploKept1 xs[k + 1] xs[k]
    have hc := cmpInt_lt0 xs[k].len xs[k + 1].len
    generalize cmpInt xs[k].len xs[k + 1].len = c at gK hc
    by_cases hn : c < 0
    · have hbf : b = false := by
        cases hbb : b with
        | false => rfl
        | true =>
          have := (hb.1 hbb) (k + 1) (by omega) k1
          rw [nth_at _ k1, Nat.add_sub_cancel, nth_at _ k0] at this
          have := hc.1 hn
          omega
      repeat' (first | ((first | apply LT.cons1 | apply HT.cons1); (first | exact OpH.indexS (t := 28) (k := 6) (j := k + 1) rfl slP rfl (by omega) (by kernel_rfl) (map_at k1) rfl | exact OpH.indexS (t := 28) (k := 6) (j := k) rfl slP rfl (by omega) (by kernel_rfl) (map_at k0) rfl | exact OpH.callV rfl Tryz.func105 rfl rfl rfl gK rfl); (try decide)) | refine stpLawCLengths_1 ?_ | refine stp ?_ | (refine stq ?_ ?_ <;> intro _))
      refine ⟨by first | exact .inl rfl | exact .inr rfl, _, (.cons (.tmp 4 (A := .val _) rfl (fun _ h => by cases h)) .nil), ?_, rfl⟩
      rw [hbf]; rfl
    · repeat' (first | ((first | apply LT.cons1 | apply HT.cons1); (first | exact OpH.indexS (t := 28) (k := 6) (j := k + 1) rfl slP rfl (by omega) (by kernel_rfl) (map_at k1) rfl | exact OpH.indexS (t := 28) (k := 6) (j := k) rfl slP rfl (by omega) (by kernel_rfl) (map_at k0) rfl | exact OpH.callV rfl Tryz.func105 rfl rfl rfl gK rfl); (try decide)) | refine stpLawCLengths_1 ?_ | refine stp ?_ | (refine stq ?_ ?_ <;> intro _))
      refine ⟨(k : Int) + 1 - 1, ⟨by omega, by omega, fun j q1 q2 q3 => ?_⟩, by omega, ?_⟩
      · by_cases e : j = k + 1
        · subst e
          rw [nth_at _ k1, Nat.add_sub_cancel, nth_at _ k0]
          have : ¬ xs[k].len < xs[k + 1].len := fun h => hn (hc.2 h)
          omega
        · exact h3 j (by omega) q2 q3
      · exact subT
  · have hbt : b = true := hb.2 fun j q1 q2 => h3 j (by omega) q1 q2
    repeat' (first | refine stpLawCLengths_1 ?_ | refine stp ?_ | (refine stq ?_ ?_ <;> intro _))
    refine ⟨by first | exact .inl rfl | exact .inr rfl, _, (.cons (.tmp 4 (A := .val _) rfl (fun _ h => by cases h)) .nil), ?_, rfl⟩
    rw [hbt]; rfl
theorem arm80_1 {p : Prop} (h : p := by first | exact fm0 | exact fm53 | fail) : p := h
set_option maxRecDepth 100000 in
set_option maxHeartbeats 2000000 in
theorem g_ploKept (l : List Slt) (b : Bool) (hb : b = true ↔ AdjL (entsS l)) (hl : l.length ≤ 60000) : Good Tryz.prog 80 [.sl 7 (l.map encS)] (.val (.bool b)) := by
  have gE := g_Entries l (by omega)
  have gS := g_IsSorted (entsS l) b hb (by have := entsS_length l; omega)
  refine Good.of_body (T := [(0, _)]) Tryz.func80 rfl rfl rfl ?_
  intro K0 w0 hno
  repeat' (first | (refine LT.consT ?_; refine T.callRow Tryz.func54 rfl rfl rfl gE (by decide) rfl ?_) | (apply LT.cons1; (first | exact OpH.callF Tryz.func106 rfl rfl rfl gS rfl); (try decide)) | (apply LT.cons1; exact arm80_1; (try decide)) | refine stp ?_ | (refine stq ?_ ?_ <;> intro _))
  refine ⟨by first | exact .inl rfl | exact .inr rfl, _, (.cons (.tmp 2 (A := .val _) rfl (fun _ h => by cases h)) .nil), ?_, rfl⟩
  rfl
theorem arm107_1 {p : Prop} (h : p := by first | exact fm0 | exact fm53 | exact fm56 | exact fm45 | exact fm6 | exact fm40 | exact fm65 | exact fm27 | exact fm18 | exact fm52 | exact fm28 | exact fm19 | exact fm25 | exact fm16 | exact fm50 | exact fm3 | exact fm54 | exact fm55 | exact fm4 | exact OpH.min2 rfl rfl | fail) : p := h
theorem stpLawCLengths_2 {G G' : Prop} (h' : G') (h : Hidd G' → G := by (first | (intro h; (first | (refine LT.consT ?_; (first | refine T.alloc (e := 48) (z := .agg #[.bool false, .int .u64 0, .int .u64 0, .int .u64 0, .int .u64 0, .int .i64 0, .int .i64 0]) (cs := [.val (.bool false), .val (.int .u64 0), .val (.int .u64 0), .val (.int .u64 0), .val (.int .u64 0), .val (.int .i64 0), .val (.int .i64 0)]) (by kernel_rfl) rfl (by decide) rfl rfl ?_ | refine T.store (t := 48) rfl rfl rfl (by kernel_rfl) (by kernel_rfl) (Nat.le_of_ble_eq_true (by kernel_rfl)) rfl rfl ?_)) | ((first | apply LT.cons1 | (apply LT.guard1; rfl; rfl; rfl; decide)); exact arm107_1; (try decide))); exact h.1) | fail)) : G := h ⟨h'⟩
set_option maxRecDepth 100000 in
set_option maxHeartbeats 4000000 in
theorem g_ploGap (l : List Slt) (n : Int) (hk : AdjL (entsS l)) (hl : l.length ≤ 60000) : Good Tryz.prog 107 [.sl 7 (l.map encS), .val (.int .i64 n)] (.tup [.val (.int .i64 (fL l n l.length)), .val (.int .i64 (tL l n l.length))]) := by
  have gK := g_ploKept l true (by simp [hk]) hl
  refine Good.of_body (T := [(0, _), (1, _)]) Tryz.func107 rfl rfl rfl ?_
  intro K0 w0 hno
  repeat' (first | ((first | apply LT.cons1 | (apply LT.guard1; rfl; rfl; rfl; decide)); (first | exact OpH.callF Tryz.func80 rfl rfl rfl gK rfl); (try decide)) | refine stpLawCLengths_2 ?_ | refine stp ?_ | (refine stq ?_ ?_ <;> intro _))
  refine CT.loopX (fun k : Nat => (⟨[(1, .val (.int .i64 n)), (6, .val (.int .i64 (fL l n k))), (7, .val (.int .i64 (tL l n k))), (15, .sl 7 (l.map encS)), (16, .val (.int .i64 l.length)), (17, .val (.int .i64 k))], [], []⟩ : St))
    (fun k => k ≤ l.length) (fun k => l.length - k) 0 ?_ (by omega) ?_
  · rw [show fL l n 0 = 0 from rfl, show tL l n 0 = l.length from rfl]
    exact subT
  rintro k hk2
  by_cases hlt : k < l.length
  · have sf : fL l n (k + 1) = if (nth l k).valid = true ∧ n < (nth l k).e.len then (k : Int) + 1 else fL l n k := rfl
    have st : tL l n (k + 1) = if (nth l k).valid = true ∧ (nth l k).e.len < n then (if (k : Int) < tL l n k then (k : Int) else tL l n k) else tL l n k := rfl
    cases hs : l[k] with
    | mk v e =>
      have hat := slot_at hlt hs
      rw [nth_is hlt hs] at sf st
      generalize fL l n k = f0 at sf ⊢
      generalize tL l n k = t0 at st ⊢
      cases v with
      | false =>
        rw [if_neg (by simp)] at sf st
        repeat' (first | ((first | apply LT.cons1 | (apply LT.guard1; rfl; rfl; rfl; decide)); (first | exact OpH.indexS (t := 30) (k := 7) (j := k) rfl slP rfl rfl (by kernel_rfl) hat rfl); (try decide)) | refine stpLawCLengths_2 ?_ | refine stp ?_ | (refine stq ?_ ?_ <;> intro _))
        refine ⟨k + 1, by omega, by omega, ?_⟩
        rw [sf, st]
        exact subT
      | true =>
        by_cases c1 : n < e.len
        · rw [if_pos ⟨rfl, c1⟩] at sf
          rw [if_neg (fun h => by have := h.2; dsimp only at this; omega)] at st
          have c2 : ¬ e.len < n := by omega
          repeat' (first | ((first | apply LT.cons1 | (apply LT.guard1; rfl; rfl; rfl; decide)); (first | exact OpH.indexS (t := 30) (k := 7) (j := k) rfl slP rfl rfl (by kernel_rfl) hat rfl); (try decide)) | refine stpLawCLengths_2 ?_ | refine stp ?_ | (refine stq ?_ ?_ <;> intro _))
          refine ⟨k + 1, by omega, by omega, ?_⟩
          rw [sf, st]
          exact subT
        · rw [if_neg (fun h => c1 h.2)] at sf
          by_cases c2 : e.len < n
          · rw [if_pos ⟨rfl, c2⟩] at st
            repeat' (first | ((first | apply LT.cons1 | (apply LT.guard1; rfl; rfl; rfl; decide)); (first | exact OpH.indexS (t := 30) (k := 7) (j := k) rfl slP rfl rfl (by kernel_rfl) hat rfl); (try decide)) | refine stpLawCLengths_2 ?_ | refine stp ?_ | (refine stq ?_ ?_ <;> intro _))
            refine ⟨k + 1, by omega, by omega, ?_⟩
            rw [sf, st]
            exact subT
          · rw [if_neg (fun h => c2 h.2)] at st
            repeat' (first | ((first | apply LT.cons1 | (apply LT.guard1; rfl; rfl; rfl; decide)); (first | exact OpH.indexS (t := 30) (k := 7) (j := k) rfl slP rfl rfl (by kernel_rfl) hat rfl); (try decide)) | refine stpLawCLengths_2 ?_ | refine stp ?_ | (refine stq ?_ ?_ <;> intro _))
            refine ⟨k + 1, by omega, by omega, ?_⟩
            rw [sf, st]
            exact subT
  · obtain rfl : k = l.length := by omega
    repeat' (first | refine stpLawCLengths_2 ?_ | refine stp ?_ | (refine stq ?_ ?_ <;> intro _))
    refine ⟨by first | exact .inl rfl | exact .inr rfl, _, (.cons (.tmp 4 (A := .val _) rfl (fun _ h => by cases h)) (.cons (.tmp 5 (A := .val _) rfl (fun _ h => by cases h)) .nil)), ?_, rfl⟩
    rfl
end Go.Proofs.YtjmnnkhdadoehaaGreat

/- Slots in the order of lengths: shifts and gaps; in plain Lean. -/
namespace Go.Proofs.YtjmnnkhdadoehaaGreat
set_option linter.unusedSimpArgs false
set_option linter.unusedVariables false
open Go
def lenAt (l : List Slt) (k : Nat) : Int := (nth l k).e.len
def keptP (l : List Slt) : Bool := decide ((entsS l).Pairwise fun x y => y.len ≤ x.len)
theorem keptP_adj (l : List Slt) : keptP l = true ↔ AdjL (entsS l) := by
  unfold keptP
  rw [decide_eq_true_eq]
  constructor
  · intro h i h0 hi
    have := List.pairwise_iff_getElem.1 h (i - 1) i (by omega) hi (by omega)
    rw [nth_at _ hi, nth_at _ (show i - 1 < (entsS l).length by omega)]
    exact this
  · exact adj_pw
theorem keptP_iff (l : List Slt) : keptP l = true ↔ ∀ i j, i < j → j < l.length → (nth l i).valid = true → (nth l j).valid = true → lenAt l j ≤ lenAt l i := by
  unfold keptP entsS
  rw [decide_eq_true_eq, List.pairwise_map, List.pairwise_filter, List.pairwise_iff_getElem]
  constructor
  · intro h i j hij hj hv hw
    have hi : i < l.length := by omega
    rw [nth_at _ hi] at hv
    rw [nth_at _ hj] at hw
    have := h i j hi hj hij hv hw
    unfold lenAt
    rw [nth_at _ hi, nth_at _ hj]
    exact this
  · intro h i j hi hj hij hv hw
    have := h i j hij hj (by rw [nth_at _ hi]; exact hv) (by rw [nth_at _ hj]; exact hw)
    unfold lenAt at this
    rw [nth_at _ hi, nth_at _ hj] at this
    exact this
def dnB (l : List Slt) (to a : Nat) : Nat := firstF (fun i => decide (lenAt l i = lenAt l (a - 1))) (a - 1 - to) to
theorem dnB_uniq {l : List Slt} {to a r : Nat} (h1 : to ≤ r) (h2 : r + 1 ≤ a) (h3 : ∀ j, to ≤ j → j < r → lenAt l j ≠ lenAt l (a - 1)) (h4 : lenAt l r = lenAt l (a - 1)) : dnB l to a = r :=
  firstF_uniq h1 (by omega) (fun j p q => decide_eq_false (h3 j p q)) fun _ => decide_eq_true h4
theorem dnB_bound {l : List Slt} {to a : Nat} (h : to < a) : to ≤ dnB l to a ∧ dnB l to a < a := by
  obtain ⟨h1, h2, _⟩ := firstF_spec (fun i => decide (lenAt l i = lenAt l (a - 1))) (a - 1 - to) to
  unfold dnB
  omega
def upA (l : List Slt) (la a : Nat) : Nat := (lastTo (fun i => decide (lenAt l i = lenAt l (a + 1))) (la + 1)).toNat
theorem upA_uniq {l : List Slt} {la a r : Nat} (h1 : a < r) (h2 : r ≤ la) (h3 : ∀ j, r < j → j ≤ la → lenAt l j ≠ lenAt l (a + 1)) (h4 : lenAt l r = lenAt l (a + 1)) : upA l la a = r := by
  unfold upA
  rw [lastTo_uniq (r := (r : Int)) (by omega) (by omega) (fun j p q => decide_eq_false (h3 j (by omega) (by omega))) (fun _ => by rw [Int.toNat_natCast]; exact decide_eq_true h4), Int.toNat_natCast]
theorem upA_bound {l : List Slt} {la a : Nat} (h : a < la) : a < upA l la a ∧ upA l la a ≤ la := by
  obtain ⟨h1, h2⟩ := lastTo_spec (fun i => decide (lenAt l i = lenAt l (a + 1))) (la + 1)
  have hb := lastTo_bound (fun i => decide (lenAt l i = lenAt l (a + 1))) (la + 1)
  unfold upA
  have : ¬ lastTo (fun i => decide (lenAt l i = lenAt l (a + 1))) (la + 1) < (a + 1 : Nat) := fun hc => by
    have := h1 (a + 1) hc (by omega)
    simp at this
  omega
def shG (nx : Nat → Nat) (en : Nat) (l : List Slt) (x : Ent) : Nat → Nat → List Wrt
  | 0, a => [⟨a, ⟨true, x⟩⟩]
  | f + 1, a => if a = en then [⟨a, ⟨true, x⟩⟩] else ⟨a, nth l (nx a)⟩ :: shG nx en l x f (nx a)
theorem shG_len (nx : Nat → Nat) (en : Nat) (l : List Slt) (x : Ent) : ∀ f a, 1 ≤ (shG nx en l x f a).length ∧ (shG nx en l x f a).length ≤ f + 1
  | 0, a => by simp [shG]
  | f + 1, a => by
    simp only [shG]
    split
    · simp
    · have := shG_len nx en l x f (nx a)
      simp only [List.length_cons]; omega
theorem shG_end (nx : Nat → Nat) (en : Nat) (l : List Slt) (x : Ent) (f : Nat) : shG nx en l x f en = [⟨en, ⟨true, x⟩⟩] := by
  cases f with
  | zero => rfl
  | succ f => simp only [shG, if_true]
theorem shG_fuel {nx : Nat → Nat} {en : Nat} {l : List Slt} {x : Ent} (μ : Nat → Nat) (ok : Nat → Prop) (h0 : ∀ a, ok a → μ a = 0 → a = en) (hs : ∀ a, ok a → a ≠ en → ok (nx a) ∧ μ (nx a) < μ a) :
    ∀ (f f' a : Nat), ok a → μ a ≤ f → μ a ≤ f' → shG nx en l x f a = shG nx en l x f' a := by
  intro f
  induction f with
  | zero =>
    intro f' a ho h1 h2
    have e := h0 a ho (by omega)
    subst e
    rw [shG_end, shG_end]
  | succ f ih =>
    intro f' a ho h1 h2
    by_cases e : a = en
    · subst e; rw [shG_end, shG_end]
    · obtain ⟨h3, h4⟩ := hs a ho e
      cases f' with
      | zero => exact absurd (h0 a ho (by omega)) e
      | succ f' =>
        simp only [shG]
        rw [if_neg e, if_neg e, ih f' (nx a) h3 (by omega) (by omega)]
def shB (l : List Slt) (x : Ent) (to a : Nat) : List Wrt := shG (dnB l to) to l x (a - to) a
def shA (l : List Slt) (x : Ent) (la a : Nat) : List Wrt := shG (upA l la) la l x (la - a) a
theorem shB_end (l : List Slt) (x : Ent) (to : Nat) : shB l x to to = [⟨to, ⟨true, x⟩⟩] := shG_end _ _ _ _ _
theorem shA_end (l : List Slt) (x : Ent) (la : Nat) : shA l x la la = [⟨la, ⟨true, x⟩⟩] := shG_end _ _ _ _ _
theorem shB_step (l : List Slt) (x : Ent) {to a : Nat} (h : to < a) : shB l x to a = ⟨a, nth l (dnB l to a)⟩ :: shB l x to (dnB l to a) := by
  have hb := dnB_bound (l := l) h
  obtain ⟨k, hk⟩ : ∃ k, a - to = k + 1 := ⟨a - to - 1, by omega⟩
  unfold shB
  rw [hk]
  simp only [shG]
  rw [if_neg (by omega)]
  congr 1
  exact shG_fuel (fun a => a - to) (fun a => to ≤ a) (fun a q1 q2 => by omega) (fun a q1 q2 => by
    have := dnB_bound (l := l) (show to < a by omega)
    omega) _ _ _ hb.1 (by omega) (Nat.le_refl _)
theorem shA_step (l : List Slt) (x : Ent) {la a : Nat} (h : a < la) : shA l x la a = ⟨a, nth l (upA l la a)⟩ :: shA l x la (upA l la a) := by
  have hb := upA_bound (l := l) h
  obtain ⟨k, hk⟩ : ∃ k, la - a = k + 1 := ⟨la - a - 1, by omega⟩
  unfold shA
  rw [hk]
  simp only [shG]
  rw [if_neg (by omega)]
  congr 1
  exact shG_fuel (fun a => la - a) (fun a => a ≤ la) (fun a q1 q2 => by omega) (fun a q1 q2 => by
    have := upA_bound (l := l) (show a < la by omega)
    omega) _ _ _ hb.2 (by omega) (Nat.le_refl _)
theorem shB_len (l : List Slt) (x : Ent) (to a : Nat) : 1 ≤ (shB l x to a).length ∧ (shB l x to a).length ≤ a - to + 1 := shG_len _ _ _ _ _ _
theorem shA_len (l : List Slt) (x : Ent) (la a : Nat) : 1 ≤ (shA l x la a).length ∧ (shA l x la a).length ≤ la - a + 1 := shG_len _ _ _ _ _ _
/-! ### The gap -/
theorem fL_spec (l : List Slt) (n : Int) : ∀ k, fL l n k = 0 ∨ ∃ j, j < k ∧ fL l n k = (j : Int) + 1 ∧ (nth l j).valid = true ∧ n < lenAt l j
  | 0 => .inl rfl
  | k + 1 => by
    simp only [fL]
    by_cases c : (nth l k).valid = true ∧ n < (nth l k).e.len
    · rw [if_pos c]; exact .inr ⟨k, by omega, rfl, c.1, c.2⟩
    · rw [if_neg c]
      rcases fL_spec l n k with h | ⟨j, h1, h2⟩
      · exact .inl h
      · exact .inr ⟨j, by omega, h2⟩
theorem tL_spec (l : List Slt) (n : Int) : ∀ k, tL l n k = l.length ∨ ∃ j, j < k ∧ tL l n k = (j : Int) ∧ (nth l j).valid = true ∧ lenAt l j < n
  | 0 => .inl rfl
  | k + 1 => by
    simp only [tL]
    by_cases c : (nth l k).valid = true ∧ (nth l k).e.len < n
    · rw [if_pos c]
      split
      · exact .inr ⟨k, by omega, rfl, c.1, c.2⟩
      · rcases tL_spec l n k with h | ⟨j, h1, h2⟩
        · exact .inl h
        · exact .inr ⟨j, by omega, h2⟩
    · rw [if_neg c]
      rcases tL_spec l n k with h | ⟨j, h1, h2⟩
      · exact .inl h
      · exact .inr ⟨j, by omega, h2⟩
theorem fL_tL {l : List Slt} {n : Int} (hk : keptP l = true) : fL l n l.length ≤ tL l n l.length := by
  have hk := (keptP_iff l).1 hk
  obtain ⟨q1, q2, q3⟩ := tL_le l n l.length
  rcases fL_spec l n l.length with h | ⟨i, h1, h2, h3, h4⟩
  · omega
  · rcases tL_spec l n l.length with h | ⟨j, p1, p2, p3, p4⟩
    · omega
    · rcases Nat.lt_trichotomy i j with c | c | c
      · omega
      · subst c; omega
      · have := hk j i c h1 p3 h3
        omega
def insP (l : List Slt) (x : Ent) : List Wrt × Int :=
  if eRight x = false then ([], 1) else
  if keptP l = false then ([], 7) else
  if (entsS l).length = l.length then ([], 3) else
  if 0 ≤ emFirst l (fL l x.len l.length).toNat (tL l x.len l.length).toNat then ([⟨emFirst l (fL l x.len l.length).toNat (tL l x.len l.length).toNat, ⟨true, x⟩⟩], 0) else
  if emFirst l (tL l x.len l.length).toNat l.length < 0 then (shA l x ((fL l x.len l.length).toNat - 1) (emLast l 0 (fL l x.len l.length).toNat).toNat, 0) else
  if 0 ≤ emLast l 0 (fL l x.len l.length).toNat ∧ (shA l x ((fL l x.len l.length).toNat - 1) (emLast l 0 (fL l x.len l.length).toNat).toNat).length < (shB l x (tL l x.len l.length).toNat (emFirst l (tL l x.len l.length).toNat l.length).toNat).length then (shA l x ((fL l x.len l.length).toNat - 1) (emLast l 0 (fL l x.len l.length).toNat).toNat, 0) else
  (shB l x (tL l x.len l.length).toNat (emFirst l (tL l x.len l.length).toNat l.length).toNat, 0)
end Go.Proofs.YtjmnnkhdadoehaaGreat

/- ref12: Kept, Gap, below, above. -/
namespace Go.Proofs.YtjmnnkhdadoehaaGreat
set_option linter.unusedSimpArgs false
set_option linter.unusedVariables false
open Go Go.RowKit Go.Shelf
attribute [local irreducible] OpH OpT LT CT HT Good
end Go.Proofs.YtjmnnkhdadoehaaGreat

/- CaoOne: the walk. -/
namespace Go.Proofs.YtjmnnkhdadoehaaGreat
set_option linter.unusedSimpArgs false
set_option linter.unusedVariables false
open Go Go.RowKit Go.Shelf
theorem ents_all {l : List Slt} (h : ∀ k, k < l.length → (nth l k).valid = true) : (entsS l).length = l.length := by
  unfold entsS
  rw [List.length_map, List.filter_eq_self.2 fun s hs => ?_]
  obtain ⟨k, hk, rfl⟩ := List.mem_iff_getElem.1 hs
  have := h k hk
  rwa [nth_at _ hk] at this
attribute [local irreducible] OpH OpT LT CT HT Good
theorem arm25_1 {p : Prop} (h : p := by first | exact fm0 | exact fm53 | exact fm45 | exact fm44 | exact fm8 | exact fm9 | fail) : p := h
set_option maxRecDepth 100000 in
set_option maxHeartbeats 2000000 in
theorem g_Free (l : List Slt) (hl : l.length ≤ 60000) : Good Tryz.prog 25 [.sl 7 (l.map encS)] (.val (.int .i64 ((l.length : Int) - (entsS l).length))) := by
  have gE := g_Entries l (by omega)
  have hel := entsS_length l
  refine Good.of_body (T := [(0, _)]) Tryz.func25 rfl rfl rfl ?_
  intro K0 w0 hno
  repeat' (first | (refine LT.consT ?_; refine T.callRow Tryz.func54 rfl rfl rfl gE (by decide) rfl ?_) | (apply LT.cons1; exact arm25_1; (try decide)) | refine stp ?_ | (refine stq ?_ ?_ <;> intro _))
  refine ⟨by first | exact .inl rfl | exact .inr rfl, _, (.cons (.tmp 2 (A := .val _) rfl (fun _ h => by cases h)) .nil), ?_, rfl⟩
  rfl
end Go.Proofs.YtjmnnkhdadoehaaGreat

/- CaoGaps, CaoFull: the plain law and the walks. -/
namespace Go.Proofs.YtjmnnkhdadoehaaGreat
set_option linter.unusedSimpArgs false
set_option linter.unusedVariables false
open Go Go.RowKit Go.Shelf
theorem all_ents {l : List Slt} (h : (entsS l).length = l.length) : ∀ k, k < l.length → (nth l k).valid = true := by
  intro k hk
  unfold entsS at h
  rw [List.length_map, List.length_filter_eq_length_iff] at h
  rw [nth_at _ hk]
  exact h _ (List.getElem_mem hk)
theorem mem_entsS {l : List Slt} {k : Nat} (hk : k < l.length) (hv : (nth l k).valid = true) : (nth l k).e ∈ entsS l := by
  unfold entsS
  rw [nth_at _ hk] at hv ⊢
  exact List.mem_map.2 ⟨_, List.mem_filter.2 ⟨List.getElem_mem hk, hv⟩, rfl⟩
theorem full_ins {l : List Slt} {x : Ent} (hr : eRight x = true) (ho : ordered (entsS l) = true) (hg : gapFrom l x ≤ gapTo l x) :
    ((∀ j, j < l.length → (nth l j).valid = true) → insC l x = ([], 3)) ∧ ((¬ ∀ j, j < l.length → (nth l j).valid = true) → (insC l x).2 = 0 ∧ 0 < (insC l x).1.length) := by
  have hfb := gapFrom_bound l x
  have htb := gapTo_bound l x
  have hvt : gapTo l x < l.length → (nth l (gapTo l x)).valid = true := fun h => by
    have := (loF_spec l x (Nat.zero_le _)).2.2.2 h
    unfold loP at this
    rw [Bool.and_eq_true] at this
    exact this.1
  have hvf : 0 ≤ gapFrom l x - 1 → (nth l (gapFrom l x - 1).toNat).valid = true := fun h => by
    have hq : gapFrom l x = lastTo (hiP l x) l.length + 1 := rfl
    have := (lastTo_spec (hiP l x) l.length).2 (by omega)
    rw [show (lastTo (hiP l x) l.length).toNat = (gapFrom l x - 1).toNat by omega] at this
    unfold hiP at this
    rw [Bool.and_eq_true] at this
    exact this.1
  have hB := wayB_some l (l.length + 1) (gapTo l x) htb (by omega) hvt
  have hA := wayA_some l (l.length + 1) (gapFrom l x - 1) (by omega) (by omega) (by omega) hvf
  change wayB l (gapTo l x) = [] ↔ _ at hB
  change wayA l (gapFrom l x - 1) = [] ↔ _ at hA
  have hE := emFirst_spec l (show (gapFrom l x).toNat ≤ gapTo l x by omega)
  have hl1 : ∀ w : List Int, w.length = 0 ↔ w = [] := fun w => List.length_eq_zero_iff
  have hw : ∀ w : List Int, 0 < w.length → 0 < (writesOf l x w).length := fun w h => by rw [writesOf_length l x h]; exact h
  have b1 := hl1 (wayB l (gapTo l x))
  have b2 := hl1 (wayA l (gapFrom l x - 1))
  have hwB := hw (wayB l (gapTo l x))
  have hwA := hw (wayA l (gapFrom l x - 1))
  have hwE := hw [emFirst l (gapFrom l x).toNat (gapTo l x)] (by simp)
  unfold insC
  rw [if_neg (by rw [hr]; decide), if_neg (by rw [ho]; rintro (h | h); cases h; omega)]
  generalize wayB l (gapTo l x) = wb at *
  generalize wayA l (gapFrom l x - 1) = wa at *
  constructor
  · intro hall
    have e0 : emFirst l (gapFrom l x).toNat (gapTo l x) = -1 := by
      rcases hE with h | ⟨r, _, h2, h3, h4, _⟩
      · exact h.1
      · rw [hall r (by omega)] at h4; cases h4
    have e1 := b1.2 (hB.2 fun j _ h => hall j h)
    have e2 := b2.2 (hA.2 fun j h => hall j (by omega))
    rw [e0, if_neg (by decide), if_pos (by omega)]
  · intro hno
    split
    · exact ⟨rfl, hwE⟩
    · rename_i hem
      have hmid : ∀ j, (gapFrom l x).toNat ≤ j → j < gapTo l x → (nth l j).valid = true := by
        rcases hE with h | ⟨r, h1, _⟩
        · exact h.2
        · rw [h1] at hem; omega
      split
      · rename_i hz
        refine absurd (fun j hj => ?_) hno
        by_cases c1 : gapTo l x ≤ j
        · exact hB.1 (b1.1 (by omega)) j c1 hj
        · by_cases c2 : (gapFrom l x).toNat ≤ j
          · exact hmid j c2 (by omega)
          · exact hA.1 (b2.1 (by omega)) j (by omega)
      · rename_i hz
        split
        · rename_i h
          exact ⟨rfl, hwA (by omega)⟩
        · rename_i h
          exact ⟨rfl, hwB (by omega)⟩
attribute [local irreducible] OpH OpT LT CT HT Good
end Go.Proofs.YtjmnnkhdadoehaaGreat
