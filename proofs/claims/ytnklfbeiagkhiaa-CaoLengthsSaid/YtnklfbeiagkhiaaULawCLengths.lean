/- plo.Kept, plo.Gap; CaoLengths: the walk. -/
import Derived.Test.YtnklfbeiagkhiaaUCaoP
import Derived.Test.YtnklfbeiagkhiaaUOpen
namespace Go.Proofs.Ytnklfbeiagkhiaa
set_option linter.unusedSimpArgs false
set_option linter.unusedVariables false
open Go Go.RowKit Go.Shelf
section
variable {P : Program} {N : Nat} {K0 : Know} {w0 : Bas} {S : St} {d : Option Nat} {ty : TypeId} {pos : String} {aft : Array Edge} {g : Option (Nat × Bool)} {x : Operand}
theorem OpH.callV {f : FuncId} {fn : Func} {c : Code} {args : Array Operand} {ats : Array TypeId} {As : List AV} {res : AV} (h0 : S.opv x = .val (.func (.func f) #[] #[])) (hf : P.funcs[f]? = some fn) (hname : (fn.name == "runtime.NumGoroutine") = false) (hb : fn.body = some c)
    (hargs : (args.toList.map fun x => (S.opv x).arg) = As) (hg : Good P f As res) (hp : res.plain = true) : OpH P N K0 w0 ⟨d, .call { callee := .value x, args := args, argTypes := ats }, ty, pos, aft, g⟩ S res := by
  subst hargs
  intro S' K n a w hs hB hop
  have hx := hs.opv x
  rw [hop x (by simp [Op.operands, Call.operands]), h0] at hx
  have hargsOf : ∀ y ∈ args.toList, S'.opv y = S.opv y := fun y hy => hop y (by simp only [Op.operands, Call.operands]; simp; right; simpa using hy)
  have key : ∀ {R : Ending → World → Prop}, Calls P f (args.toList.map a.eval).toArray w R → Calls P f ((args.toList.map a.eval).toArray ++ #[]) w R := fun h => by simpa using h
  refine upon_enter_calls (call_runD hf hname hb hx w) (key (hg K w (args.toList.map a.eval) hs.ok (by simp) fun i B cv hBi hci => ?_)) ?_
  · rw [List.getElem?_map, Option.map_eq_some_iff] at hBi hci
    obtain ⟨y, hy, rfl⟩ := hBi
    obtain ⟨y', hy', rfl⟩ := hci
    rw [hy] at hy'
    injection hy' with hy'
    subst hy'
    have h1 := hs.opv y
    rw [hargsOf y (List.mem_of_getElem? hy)] at h1
    exact (AV.arg_of (S.opv y)).rep h1
  · rintro e w' ⟨c, K', rfl, h1, h2, h3, h4, ρ, h5, _⟩
    exact ⟨c, rfl, c, K', rfl, h1, h2, h3, h4, h5.plain hp, fun r e k xs hr => absurd hr (AV.plain_row hp r e k xs)⟩
end
theorem cmpInt_lt0 (a b : Int) : cmpInt a b < 0 ↔ a < b := by
  unfold cmpInt
  repeat' split
  all_goals omega
/-- Longer ones stand ahead, neighbour by neighbour. -/
def AdjL (xs : List Ent) : Prop := ∀ i, 0 < i → i < xs.length → (nth xs i).len ≤ (nth xs (i - 1)).len
theorem adj_pw {xs : List Ent} (h : AdjL xs) : xs.Pairwise fun x y => y.len ≤ x.len := by
  refine List.pairwise_iff_getElem.2 fun i j hi hj hij => ?_
  suffices H : ∀ d (hd : i + 1 + d < xs.length), (xs[i + 1 + d]).len ≤ xs[i].len by
    have := H (j - i - 1) (by omega)
    simpa only [show i + 1 + (j - i - 1) = j by omega] using this
  intro d
  induction d with
  | zero =>
    intro hd
    have := h (i + 1) (by omega) hd
    rw [nth_at _ hd, nth_at _ (by omega)] at this
    simpa using this
  | succ d ih =>
    intro hd
    have h1 := ih (by omega)
    have h2 := h (i + 1 + (d + 1)) (by omega) hd
    rw [nth_at _ hd, nth_at _ (by omega)] at h2
    have e : xs[i + 1 + (d + 1) - 1]'(by omega) = xs[i + 1 + d]'(by omega) := by congr 1
    rw [e] at h2
    omega
theorem adj_ordered {xs : List Ent} (h : AdjL xs) : ordered xs = true := by
  rw [ordered_pw]
  refine (adj_pw h).imp fun {x y} hxy => ?_
  unfold eAbove
  rw [decide_eq_false (by omega), Bool.false_and]
def fL (l : List Slt) (n : Int) : Nat → Int
  | 0 => 0
  | k + 1 => if (nth l k).valid = true ∧ n < (nth l k).e.len then (k : Int) + 1 else fL l n k
def tL (l : List Slt) (n : Int) : Nat → Int
  | 0 => l.length
  | k + 1 => if (nth l k).valid = true ∧ (nth l k).e.len < n then (if (k : Int) < tL l n k then (k : Int) else tL l n k) else tL l n k
theorem fL_ge (l : List Slt) (n : Int) : ∀ k, 0 ≤ fL l n k ∧ fL l n k ≤ k ∧ ∀ j, j < k → (nth l j).valid = true → n < (nth l j).e.len → (j : Int) + 1 ≤ fL l n k
  | 0 => ⟨Int.le_refl _, Int.le_refl _, fun j h => by omega⟩
  | k + 1 => by
    obtain ⟨h1, h2, h3⟩ := fL_ge l n k
    simp only [fL]
    by_cases c : (nth l k).valid = true ∧ n < (nth l k).e.len
    · rw [if_pos c]
      exact ⟨by omega, by omega, fun j hj _ _ => by omega⟩
    · rw [if_neg c]
      refine ⟨h1, by omega, fun j hj hv hn => ?_⟩
      by_cases e : j = k
      · subst e; exact absurd ⟨hv, hn⟩ c
      · exact h3 j (by omega) hv hn
theorem tL_le (l : List Slt) (n : Int) : ∀ k, 0 ≤ tL l n k ∧ tL l n k ≤ l.length ∧ ∀ j, j < k → (nth l j).valid = true → (nth l j).e.len < n → tL l n k ≤ j
  | 0 => ⟨by simp [tL], Int.le_refl _, fun j h => by omega⟩
  | k + 1 => by
    obtain ⟨h1, h2, h3⟩ := tL_le l n k
    simp only [tL]
    by_cases c : (nth l k).valid = true ∧ (nth l k).e.len < n
    · rw [if_pos c]
      refine ⟨by split <;> omega, by split <;> omega, fun j hj hv hn => ?_⟩
      by_cases e : j = k
      · subst e; split <;> omega
      · have := h3 j (by omega) hv hn
        split <;> omega
    · rw [if_neg c]
      refine ⟨h1, h2, fun j hj hv hn => ?_⟩
      by_cases e : j = k
      · subst e; exact absurd ⟨hv, hn⟩ c
      · exact h3 j (by omega) hv hn
theorem lens_gap (l : List Slt) (x : Ent) : gapFrom l x ≤ fL l x.len l.length ∧ tL l x.len l.length ≤ gapTo l x := by
  obtain ⟨f1, _, f3⟩ := fL_ge l x.len l.length
  obtain ⟨_, t2, t3⟩ := tL_le l x.len l.length
  have hb := lastTo_bound (hiP l x) l.length
  obtain ⟨_, q2⟩ := lastTo_spec (hiP l x) l.length
  have hq : gapFrom l x = lastTo (hiP l x) l.length + 1 := rfl
  obtain ⟨_, p2, _, p4⟩ := loF_spec l x (Nat.zero_le _)
  have hp : gapTo l x = loF l x 0 := rfl
  generalize lastTo (hiP l x) l.length = q at hb q2 hq
  constructor
  · by_cases c : 0 ≤ q
    · have e := q2 c
      unfold hiP at e
      rw [Bool.and_eq_true] at e
      have := f3 _ (by omega) e.1 (eAbove_len e.2)
      omega
    · omega
  · by_cases c : loF l x 0 < l.length
    · have e := p4 c
      rw [← hp] at e c
      unfold loP at e
      rw [Bool.and_eq_true] at e
      exact t3 _ c e.1 (eAbove_len e.2)
    · omega
attribute [local irreducible] OpH OpT LT CT HT Good
theorem arm88_1 {p : Prop} (h : p := by first | exact OpH.assign (v := .val _) rfl | exact OpH.assign (v := .sl _ _) rfl | exact OpH.assign (v := .row _ _ _ _) rfl | exact OpH.assign (v := .full _ _) rfl | exact OpH.assign (v := .ptr _ _) rfl | exact OpH.assign (v := .cptr _) rfl | exact OpH.assign (v := .cloB _ _) rfl | exact OpH.assign (v := .clo _ _) rfl | exact OpH.assign (v := .pr _) rfl | exact OpH.assign (v := .arow _) rfl | exact OpH.assign (v := .aptr _ _ _ _) rfl | exact OpH.assign (v := .asub _ _ _ _) rfl | exact OpH.assign (v := .tup _) rfl | exact OpH.fieldC (s := 36) (f := 1) (off := 4) rfl (by kernel_rfl) rfl | exact OpH.fieldB (s := 36) (f := 1) (off := 4) rfl (by kernel_rfl) rfl | exact OpH.loadC1 (t := 3) rfl (by kernel_rfl) rfl | exact OpH.loadB1 (t := 3) rfl rfl (by kernel_rfl) rfl | exact OpH.callF Try.func89 rfl rfl rfl (g_cmpInt _ _) rfl) : p := h
set_option maxRecDepth 100000 in
set_option maxHeartbeats 2000000 in
theorem g_ploKept1 (x y : Ent) : Good Try.prog 88 [.val (.agg #[.int .u64 x.w.v.x, .int .u64 x.w.v.y, .int .u64 x.w.m.x, .int .u64 x.w.m.y, .int .i64 x.len, .int .i64 x.act]), .val (.agg #[.int .u64 y.w.v.x, .int .u64 y.w.v.y, .int .u64 y.w.m.x, .int .u64 y.w.m.y, .int .i64 y.len, .int .i64 y.act])] (.val (.int .i64 (cmpInt y.len x.len))) := by
  have gC := g_cmpInt y.len x.len
  refine Good.of_body (T := [(0, _), (1, _)]) Try.func88 rfl rfl rfl ?_
  intro K0 w0 hno
  repeat' (first | refine CT.seqR ?_ | refine CT.region ?_ | refine CT.seq1 ?_ | refine CT.block ?_ | refine CT.condT rfl ?_ | refine CT.condF rfl ?_ | refine CT.condD rfl (fun _ => ?_) (fun _ => ?_) | refine CT.condN rfl (fun _ => ?_) (fun _ => ?_) | refine CT.cond rfl (fun _ => ?_) (fun _ => ?_) | refine CT.skip ?_ | refine CT.exit ?_ | refine CT.ret ?_ | refine CT.goto ?_ | refine CT.label ?_ | refine LT.nil ?_ | refine HT.nil1 ?_ | (refine LT.consT ?_; (first | refine T.box (e := 36) (cs := [.val _, .val _, .val _, .val _, .val _, .val _]) rfl rfl (by decide) rfl rfl ?_)) | (apply LT.cons1; (first | exact OpH.callF Try.func89 rfl rfl rfl gC rfl | exact arm88_1); decide))
  refine ⟨by first | exact .inl rfl | exact .inr rfl, _, (.cons (.tmp 4 (A := .val _) rfl (fun _ h => by cases h)) .nil), ?_, rfl⟩
  rfl
theorem arm90_1 {p : Prop} (h : p := by first | exact OpH.assign (v := .val _) rfl | exact OpH.assign (v := .sl _ _) rfl | exact OpH.assign (v := .row _ _ _ _) rfl | exact OpH.assign (v := .full _ _) rfl | exact OpH.assign (v := .ptr _ _) rfl | exact OpH.assign (v := .cptr _) rfl | exact OpH.assign (v := .cloB _ _) rfl | exact OpH.assign (v := .clo _ _) rfl | exact OpH.assign (v := .pr _) rfl | exact OpH.assign (v := .arow _) rfl | exact OpH.assign (v := .aptr _ _ _ _) rfl | exact OpH.assign (v := .asub _ _ _ _) rfl | exact OpH.assign (v := .tup _) rfl | exact OpH.move (v := .val _) rfl | exact OpH.move (v := .sl _ _) rfl | exact OpH.move (v := .row _ _ _ _) rfl | exact OpH.move (v := .full _ _) rfl | exact OpH.move (v := .ptr _ _) rfl | exact OpH.move (v := .cptr _) rfl | exact OpH.move (v := .cloB _ _) rfl | exact OpH.move (v := .clo _ _) rfl | exact OpH.move (v := .pr _) rfl | exact OpH.move (v := .arow _) rfl | exact OpH.move (v := .aptr _ _ _ _) rfl | exact OpH.move (v := .asub _ _ _ _) rfl | exact OpH.move (v := .tup _) rfl | exact OpH.lenM (t := 29) rfl (.sl _ _) (by kernel_rfl) | exact OpH.lenM (t := 29) rfl (.row _ _ _ _) (by kernel_rfl) | exact OpH.lenM (t := 29) rfl (.full _ _) (by kernel_rfl) | exact OpH.len (t := 29) rfl slP (by kernel_rfl) | exact OpH.lenNil (t := 29) rfl (by kernel_rfl) | exact OpH.bin rfl rfl (pb_sub (by omega)) | exact OpH.bin rfl rfl (pb_subw) | exact OpH.bin rfl rfl (pb_gtr_t (by omega)) | exact OpH.bin rfl rfl (pb_gtr_f (by omega)) | exact OpH.bin rfl rfl (pb_gtr) | exact OpH.indexS (t := 29) (k := 6) rfl slP rfl rfl (by kernel_rfl) (map_at bd) rfl | exact loadC6 (t := 36) rfl (by kernel_rfl) | exact loadB6 (t := 36) rfl rfl (by kernel_rfl) rfl | exact OpH.bin rfl rfl (pb_lss_t (by omega)) | exact OpH.bin rfl rfl (pb_lss_f (by omega)) | exact OpH.bin rfl rfl (pb_lss)) : p := h
set_option maxRecDepth 100000 in
set_option maxHeartbeats 2000000 in
theorem g_IsSorted (xs : List Ent) (b : Bool) (hb : b = true ↔ AdjL xs) (hl : xs.length ≤ 65536) : Good Try.prog 90 [.sl 6 (xs.map encE), .val (.func (.func 88) #[] #[])] (.val (.bool b)) := by
  refine Good.of_body (T := [(0, _), (1, _)]) Try.func90 rfl rfl rfl ?_
  intro K0 w0 hno
  repeat' (first | refine CT.seqR ?_ | refine CT.seqD (id := 4) 11 (by kernel_rfl) (by kernel_rfl) ?_ | refine CT.draw (id := 4) 11 (by kernel_rfl) (by kernel_rfl) ?_ | refine CT.region ?_ | refine CT.seq1 ?_ | refine CT.block ?_ | refine CT.condT rfl ?_ | refine CT.condF rfl ?_ | refine CT.condD rfl (fun _ => ?_) (fun _ => ?_) | refine CT.condN rfl (fun _ => ?_) (fun _ => ?_) | refine CT.cond rfl (fun _ => ?_) (fun _ => ?_) | refine CT.skip ?_ | refine CT.exit ?_ | refine CT.ret ?_ | refine CT.goto ?_ | refine CT.label ?_ | refine LT.nil ?_ | refine HT.nil1 ?_ | (apply LT.cons1; (first | exact arm90_1); decide) | (apply HT.cons1; (first | exact arm90_1)))
  refine CT.loopX (fun i : Int => (⟨[(0, .sl 6 (xs.map encE)), (1, .val (.func (.func 88) #[] #[])), (5, .val (.int .i64 i))], [], []⟩ : St))
    (fun i => -1 ≤ i ∧ i < xs.length ∧ ∀ j : Nat, i < j → 0 < j → j < xs.length → (nth xs j).len ≤ (nth xs (j - 1)).len) (fun i => (i + 1).toNat) ((xs.length : Int) - 1) ?_ ⟨by omega, by omega, fun j h1 h2 h3 => by omega⟩ ?_
  · (apply Sub.mk; (focus (repeat (first | exact .nil | refine .other (.keep rfl rfl) ?_ | refine .other (.aref rfl rfl rfl) ?_ | refine .other (.val rfl (by first | rfl | (congr 1; first | omega | assumption | (symm; assumption)) | (simp; omega))) ?_ | refine .other .dead ?_ | refine .other (.sl rfl (.row _ _ _ _) rfl) ?_ | refine .other (.sl rfl (.sl _ _) rfl) ?_ | refine .other (.sl rfl (.full _ _) rfl) ?_ | refine .other (.slNil rfl rfl) ?_ | refine .rowNil rfl rfl rfl ?_ | refine .row rfl (by first | rfl | assumption | (rw [← List.map_append]; first | done | rfl | congr 1)) rfl rfl ?_))); (focus (repeat (first | exact .nil | refine KeepB.same rfl rfl rfl ?_ | refine KeepB.sameA rfl rfl rfl ?_))); (focus (repeat (first | exact .nil | refine KeepA.cons rfl (by first | rfl | assumption | exact List.map_set | exact List.map_set.symm | (rw [← List.map_append]; first | done | rfl | congr 1) | (congr 1; first | omega | assumption)) ?_))))
  rintro i ⟨h1, h2, h3⟩
  by_cases hpos : 0 < i
  · obtain ⟨k, rfl⟩ : ∃ k : Nat, i = (k : Int) + 1 := ⟨(i - 1).toNat, by omega⟩
    have k1 : k + 1 < xs.length := by omega
    have k0 : k < xs.length := by omega
    have gK := g_ploKept1 xs[k + 1] xs[k]
    have hc := cmpInt_lt0 xs[k].len xs[k + 1].len
    generalize cmpInt xs[k].len xs[k + 1].len = c at gK hc
    by_cases hn : c < 0
    · have hbf : b = false := by
        cases hbb : b with
        | false => rfl
        | true =>
          have := (hb.1 hbb) (k + 1) (by omega) k1
          rw [nth_at _ k1, Nat.add_sub_cancel, nth_at _ k0] at this
          have := hc.1 hn
          omega
      repeat' (first | refine CT.seqR ?_ | refine CT.seqD (id := 4) 11 (by kernel_rfl) (by kernel_rfl) ?_ | refine CT.draw (id := 4) 11 (by kernel_rfl) (by kernel_rfl) ?_ | refine CT.region ?_ | refine CT.seq1 ?_ | refine CT.block ?_ | refine CT.condT rfl ?_ | refine CT.condF rfl ?_ | refine CT.condD rfl (fun _ => ?_) (fun _ => ?_) | refine CT.condN rfl (fun _ => ?_) (fun _ => ?_) | refine CT.cond rfl (fun _ => ?_) (fun _ => ?_) | refine CT.skip ?_ | refine CT.exit ?_ | refine CT.ret ?_ | refine CT.goto ?_ | refine CT.label ?_ | refine LT.nil ?_ | refine HT.nil1 ?_ | (apply LT.cons1; (first | exact OpH.indexS (t := 29) (k := 6) (j := k + 1) rfl slP rfl (by omega) (by kernel_rfl) (map_at k1) rfl | exact OpH.indexS (t := 29) (k := 6) (j := k) rfl slP rfl (by omega) (by kernel_rfl) (map_at k0) rfl | exact OpH.callV rfl Try.func88 rfl rfl rfl gK rfl | exact arm90_1); decide) | (apply HT.cons1; (first | exact OpH.indexS (t := 29) (k := 6) (j := k + 1) rfl slP rfl (by omega) (by kernel_rfl) (map_at k1) rfl | exact OpH.indexS (t := 29) (k := 6) (j := k) rfl slP rfl (by omega) (by kernel_rfl) (map_at k0) rfl | exact OpH.callV rfl Try.func88 rfl rfl rfl gK rfl | exact arm90_1)))
      refine ⟨by first | exact .inl rfl | exact .inr rfl, _, (.cons (.tmp 4 (A := .val _) rfl (fun _ h => by cases h)) .nil), ?_, rfl⟩
      rw [hbf]; rfl
    · repeat' (first | refine CT.seqR ?_ | refine CT.seqD (id := 4) 11 (by kernel_rfl) (by kernel_rfl) ?_ | refine CT.draw (id := 4) 11 (by kernel_rfl) (by kernel_rfl) ?_ | refine CT.region ?_ | refine CT.seq1 ?_ | refine CT.block ?_ | refine CT.condT rfl ?_ | refine CT.condF rfl ?_ | refine CT.condD rfl (fun _ => ?_) (fun _ => ?_) | refine CT.condN rfl (fun _ => ?_) (fun _ => ?_) | refine CT.cond rfl (fun _ => ?_) (fun _ => ?_) | refine CT.skip ?_ | refine CT.exit ?_ | refine CT.ret ?_ | refine CT.goto ?_ | refine CT.label ?_ | refine LT.nil ?_ | refine HT.nil1 ?_ | (apply LT.cons1; (first | exact OpH.indexS (t := 29) (k := 6) (j := k + 1) rfl slP rfl (by omega) (by kernel_rfl) (map_at k1) rfl | exact OpH.indexS (t := 29) (k := 6) (j := k) rfl slP rfl (by omega) (by kernel_rfl) (map_at k0) rfl | exact OpH.callV rfl Try.func88 rfl rfl rfl gK rfl | exact arm90_1); decide) | (apply HT.cons1; (first | exact OpH.indexS (t := 29) (k := 6) (j := k + 1) rfl slP rfl (by omega) (by kernel_rfl) (map_at k1) rfl | exact OpH.indexS (t := 29) (k := 6) (j := k) rfl slP rfl (by omega) (by kernel_rfl) (map_at k0) rfl | exact OpH.callV rfl Try.func88 rfl rfl rfl gK rfl | exact arm90_1)))
      refine ⟨(k : Int) + 1 - 1, ⟨by omega, by omega, fun j q1 q2 q3 => ?_⟩, by omega, ?_⟩
      · by_cases e : j = k + 1
        · subst e
          rw [nth_at _ k1, Nat.add_sub_cancel, nth_at _ k0]
          have : ¬ xs[k].len < xs[k + 1].len := fun h => hn (hc.2 h)
          omega
        · exact h3 j (by omega) q2 q3
      · (apply Sub.mk; (focus (repeat (first | exact .nil | refine .other (.keep rfl rfl) ?_ | refine .other (.aref rfl rfl rfl) ?_ | refine .other (.val rfl (by first | rfl | (congr 1; first | omega | assumption | (symm; assumption)) | (simp; omega))) ?_ | refine .other .dead ?_ | refine .other (.sl rfl (.row _ _ _ _) rfl) ?_ | refine .other (.sl rfl (.sl _ _) rfl) ?_ | refine .other (.sl rfl (.full _ _) rfl) ?_ | refine .other (.slNil rfl rfl) ?_ | refine .rowNil rfl rfl rfl ?_ | refine .row rfl (by first | rfl | assumption | (rw [← List.map_append]; first | done | rfl | congr 1)) rfl rfl ?_))); (focus (repeat (first | exact .nil | refine KeepB.same rfl rfl rfl ?_ | refine KeepB.sameA rfl rfl rfl ?_))); (focus (repeat (first | exact .nil | refine KeepA.cons rfl (by first | rfl | assumption | exact List.map_set | exact List.map_set.symm | (rw [← List.map_append]; first | done | rfl | congr 1) | (congr 1; first | omega | assumption)) ?_))))
  · have hbt : b = true := hb.2 fun j q1 q2 => h3 j (by omega) q1 q2
    repeat' (first | refine CT.seqR ?_ | refine CT.seqD (id := 4) 11 (by kernel_rfl) (by kernel_rfl) ?_ | refine CT.draw (id := 4) 11 (by kernel_rfl) (by kernel_rfl) ?_ | refine CT.region ?_ | refine CT.seq1 ?_ | refine CT.block ?_ | refine CT.condT rfl ?_ | refine CT.condF rfl ?_ | refine CT.condD rfl (fun _ => ?_) (fun _ => ?_) | refine CT.condN rfl (fun _ => ?_) (fun _ => ?_) | refine CT.cond rfl (fun _ => ?_) (fun _ => ?_) | refine CT.skip ?_ | refine CT.exit ?_ | refine CT.ret ?_ | refine CT.goto ?_ | refine CT.label ?_ | refine LT.nil ?_ | refine HT.nil1 ?_ | (apply LT.cons1; (first | exact arm90_1); decide) | (apply HT.cons1; (first | exact arm90_1)))
    refine ⟨by first | exact .inl rfl | exact .inr rfl, _, (.cons (.tmp 4 (A := .val _) rfl (fun _ h => by cases h)) .nil), ?_, rfl⟩
    rw [hbt]; rfl
theorem arm37_1 {p : Prop} (h : p := by first | exact OpH.assign (v := .val _) rfl | exact OpH.assign (v := .sl _ _) rfl | exact OpH.assign (v := .row _ _ _ _) rfl | exact OpH.assign (v := .full _ _) rfl | exact OpH.assign (v := .ptr _ _) rfl | exact OpH.assign (v := .cptr _) rfl | exact OpH.assign (v := .cloB _ _) rfl | exact OpH.assign (v := .clo _ _) rfl | exact OpH.assign (v := .pr _) rfl | exact OpH.assign (v := .arow _) rfl | exact OpH.assign (v := .aptr _ _ _ _) rfl | exact OpH.assign (v := .asub _ _ _ _) rfl | exact OpH.assign (v := .tup _) rfl | exact OpH.move (v := .val _) rfl | exact OpH.move (v := .sl _ _) rfl | exact OpH.move (v := .row _ _ _ _) rfl | exact OpH.move (v := .full _ _) rfl | exact OpH.move (v := .ptr _ _) rfl | exact OpH.move (v := .cptr _) rfl | exact OpH.move (v := .cloB _ _) rfl | exact OpH.move (v := .clo _ _) rfl | exact OpH.move (v := .pr _) rfl | exact OpH.move (v := .arow _) rfl | exact OpH.move (v := .aptr _ _ _ _) rfl | exact OpH.move (v := .asub _ _ _ _) rfl | exact OpH.move (v := .tup _) rfl) : p := h
set_option maxRecDepth 100000 in
set_option maxHeartbeats 2000000 in
theorem g_ploKept (l : List Slt) (b : Bool) (hb : b = true ↔ AdjL (entsS l)) (hl : l.length ≤ 60000) : Good Try.prog 37 [.sl 7 (l.map encS)] (.val (.bool b)) := by
  have gE := g_Entries l (by omega)
  have gS := g_IsSorted (entsS l) b hb (by have := entsS_length l; omega)
  refine Good.of_body (T := [(0, _)]) Try.func37 rfl rfl rfl ?_
  intro K0 w0 hno
  repeat' (first | (refine LT.consT ?_; refine T.callRow Try.func31 rfl rfl rfl gE (by decide) rfl ?_) | refine CT.seqR ?_ | refine CT.region ?_ | refine CT.seq1 ?_ | refine CT.block ?_ | refine CT.condT rfl ?_ | refine CT.condF rfl ?_ | refine CT.condD rfl (fun _ => ?_) (fun _ => ?_) | refine CT.condN rfl (fun _ => ?_) (fun _ => ?_) | refine CT.cond rfl (fun _ => ?_) (fun _ => ?_) | refine CT.skip ?_ | refine CT.exit ?_ | refine CT.ret ?_ | refine CT.goto ?_ | refine CT.label ?_ | refine LT.nil ?_ | refine HT.nil1 ?_ | (apply LT.cons1; (first | exact OpH.callF Try.func90 rfl rfl rfl gS rfl | exact arm37_1); decide))
  refine ⟨by first | exact .inl rfl | exact .inr rfl, _, (.cons (.tmp 2 (A := .val _) rfl (fun _ h => by cases h)) .nil), ?_, rfl⟩
  rfl
theorem arm38_1 {p : Prop} (h : p := by first | exact OpH.assign (v := .val _) rfl | exact OpH.assign (v := .sl _ _) rfl | exact OpH.assign (v := .row _ _ _ _) rfl | exact OpH.assign (v := .full _ _) rfl | exact OpH.assign (v := .ptr _ _) rfl | exact OpH.assign (v := .cptr _) rfl | exact OpH.assign (v := .cloB _ _) rfl | exact OpH.assign (v := .clo _ _) rfl | exact OpH.assign (v := .pr _) rfl | exact OpH.assign (v := .arow _) rfl | exact OpH.assign (v := .aptr _ _ _ _) rfl | exact OpH.assign (v := .asub _ _ _ _) rfl | exact OpH.assign (v := .tup _) rfl | exact OpH.move (v := .val _) rfl | exact OpH.move (v := .sl _ _) rfl | exact OpH.move (v := .row _ _ _ _) rfl | exact OpH.move (v := .full _ _) rfl | exact OpH.move (v := .ptr _ _) rfl | exact OpH.move (v := .cptr _) rfl | exact OpH.move (v := .cloB _ _) rfl | exact OpH.move (v := .clo _ _) rfl | exact OpH.move (v := .pr _) rfl | exact OpH.move (v := .arow _) rfl | exact OpH.move (v := .aptr _ _ _ _) rfl | exact OpH.move (v := .asub _ _ _ _) rfl | exact OpH.move (v := .tup _) rfl | exact OpH.un rfl un_not | exact OpH.un rfl (un_neg (by omega)) | exact OpH.lenM (t := 32) rfl (.sl _ _) (by kernel_rfl) | exact OpH.lenM (t := 32) rfl (.row _ _ _ _) (by kernel_rfl) | exact OpH.lenM (t := 32) rfl (.full _ _) (by kernel_rfl) | exact OpH.len (t := 32) rfl slP (by kernel_rfl) | exact OpH.lenNil (t := 32) rfl (by kernel_rfl) | exact OpH.bin rfl rfl (pb_lss_t (by omega)) | exact OpH.bin rfl rfl (pb_lss_f (by omega)) | exact OpH.bin rfl rfl (pb_lss) | exact OpH.indexS (t := 32) (k := 7) rfl slP rfl rfl (by kernel_rfl) (map_at bd) rfl | exact loadC7 (t := 66) rfl (by kernel_rfl) | exact loadB7 (t := 66) rfl rfl (by kernel_rfl) rfl | exact OpH.fieldC (s := 66) (f := 0) (off := 0) rfl (by kernel_rfl) rfl | exact OpH.fieldB (s := 66) (f := 0) (off := 0) rfl (by kernel_rfl) rfl | exact OpH.loadC1 (t := 4) rfl (by kernel_rfl) rfl | exact OpH.loadB1 (t := 4) rfl rfl (by kernel_rfl) rfl | exact OpH.fieldC (s := 66) (f := 1) (off := 1) rfl (by kernel_rfl) rfl | exact OpH.fieldB (s := 66) (f := 1) (off := 1) rfl (by kernel_rfl) rfl | exact OpH.fieldC (s := 36) (f := 1) (off := 4) rfl (by kernel_rfl) rfl | exact OpH.fieldB (s := 36) (f := 1) (off := 4) rfl (by kernel_rfl) rfl | exact OpH.loadC1 (t := 3) rfl (by kernel_rfl) rfl | exact OpH.loadB1 (t := 3) rfl rfl (by kernel_rfl) rfl | exact OpH.bin rfl rfl (pb_gtr_t (by omega)) | exact OpH.bin rfl rfl (pb_gtr_f (by omega)) | exact OpH.bin rfl rfl (pb_gtr) | exact OpH.pick (b := true) (v := .val _) rfl rfl | exact OpH.pick (b := false) (v := .val _) rfl rfl | exact OpH.pick (b := true) (v := .sl _ _) rfl rfl | exact OpH.pick (b := false) (v := .sl _ _) rfl rfl | exact OpH.pick (b := true) (v := .row _ _ _ _) rfl rfl | exact OpH.pick (b := false) (v := .row _ _ _ _) rfl rfl | exact OpH.pick (b := true) (v := .full _ _) rfl rfl | exact OpH.pick (b := false) (v := .full _ _) rfl rfl | exact OpH.pickV rfl rfl rfl | exact OpH.bin rfl rfl (pb_inc (by omega)) | exact OpH.bin rfl rfl (pb_addN rfl (by omega)) | exact OpH.bin rfl rfl (pb_add (by omega)) | exact OpH.bin rfl rfl (pb_addw) | exact OpH.min2 rfl rfl) : p := h
set_option maxRecDepth 100000 in
set_option maxHeartbeats 4000000 in
theorem g_ploGap (l : List Slt) (n : Int) (hk : AdjL (entsS l)) (hl : l.length ≤ 60000) : Good Try.prog 38 [.sl 7 (l.map encS), .val (.int .i64 n)] (.tup [.val (.int .i64 (fL l n l.length)), .val (.int .i64 (tL l n l.length))]) := by
  have gK := g_ploKept l true (by simp [hk]) hl
  refine Good.of_body (T := [(0, _), (1, _)]) Try.func38 rfl rfl rfl ?_
  intro K0 w0 hno
  repeat' (first | refine CT.seqR ?_ | refine CT.region ?_ | refine CT.seq1 ?_ | refine CT.block ?_ | refine CT.condT rfl ?_ | refine CT.condF rfl ?_ | refine CT.condD rfl (fun _ => ?_) (fun _ => ?_) | refine CT.condN rfl (fun _ => ?_) (fun _ => ?_) | refine CT.cond rfl (fun _ => ?_) (fun _ => ?_) | refine CT.skip ?_ | refine CT.exit ?_ | refine CT.ret ?_ | refine CT.goto ?_ | refine CT.label ?_ | refine LT.nil ?_ | refine HT.nil1 ?_ | (refine LT.consT ?_; (first | refine T.alloc (e := 66) (z := .agg #[.bool false, .int .u64 0, .int .u64 0, .int .u64 0, .int .u64 0, .int .i64 0, .int .i64 0]) (cs := [.val (.bool false), .val (.int .u64 0), .val (.int .u64 0), .val (.int .u64 0), .val (.int .u64 0), .val (.int .i64 0), .val (.int .i64 0)]) (by kernel_rfl) rfl (by decide) rfl rfl ?_ | refine T.store (t := 66) rfl rfl rfl (by kernel_rfl) (by kernel_rfl) (Nat.le_of_ble_eq_true (by kernel_rfl)) rfl rfl ?_)) | ((first | apply LT.cons1 | (apply LT.guard1; rfl; rfl; rfl; decide)); (first | exact OpH.callF Try.func37 rfl rfl rfl gK rfl | exact arm38_1); decide) | refine LT.skip1 rfl rfl rfl (by decide) (by decide) ?_ | refine LT.skip2 rfl rfl (by decide) (by decide) ?_ | refine LT.partD rfl rfl (fun _ => ?_) (fun _ => ?_) | refine LT.partN rfl rfl (fun _ => ?_) (fun _ => ?_) | (refine LT.part1 rfl rfl (fun h => ?_) (fun h => ?_); (fail_if_success exact absurd h (by decide)); rotate_left; (fail_if_success exact absurd h (by decide)); rotate_left))
  refine CT.loopX (fun k : Nat => (⟨[(1, .val (.int .i64 n)), (6, .val (.int .i64 (fL l n k))), (7, .val (.int .i64 (tL l n k))), (15, .sl 7 (l.map encS)), (16, .val (.int .i64 l.length)), (17, .val (.int .i64 k))], [], []⟩ : St))
    (fun k => k ≤ l.length) (fun k => l.length - k) 0 ?_ (by omega) ?_
  · rw [show fL l n 0 = 0 from rfl, show tL l n 0 = l.length from rfl]
    (apply Sub.mk; (focus (repeat (first | exact .nil | refine .other (.keep rfl rfl) ?_ | refine .other (.aref rfl rfl rfl) ?_ | refine .other (.val rfl (by first | rfl | (congr 1; first | omega | assumption | (symm; assumption)) | (simp; omega))) ?_ | refine .other .dead ?_ | refine .other (.sl rfl (.row _ _ _ _) rfl) ?_ | refine .other (.sl rfl (.sl _ _) rfl) ?_ | refine .other (.sl rfl (.full _ _) rfl) ?_ | refine .other (.slNil rfl rfl) ?_ | refine .rowNil rfl rfl rfl ?_ | refine .row rfl (by first | rfl | assumption | (rw [← List.map_append]; first | done | rfl | congr 1)) rfl rfl ?_))); (focus (repeat (first | exact .nil | refine KeepB.same rfl rfl rfl ?_ | refine KeepB.sameA rfl rfl rfl ?_))); (focus (repeat (first | exact .nil | refine KeepA.cons rfl (by first | rfl | assumption | exact List.map_set | exact List.map_set.symm | (rw [← List.map_append]; first | done | rfl | congr 1) | (congr 1; first | omega | assumption)) ?_))))
  rintro k hk2
  by_cases hlt : k < l.length
  · have sf : fL l n (k + 1) = if (nth l k).valid = true ∧ n < (nth l k).e.len then (k : Int) + 1 else fL l n k := rfl
    have st : tL l n (k + 1) = if (nth l k).valid = true ∧ (nth l k).e.len < n then (if (k : Int) < tL l n k then (k : Int) else tL l n k) else tL l n k := rfl
    cases hs : l[k] with
    | mk v e =>
      have hat := slot_at hlt hs
      rw [nth_is hlt hs] at sf st
      generalize fL l n k = f0 at sf ⊢
      generalize tL l n k = t0 at st ⊢
      cases v with
      | false =>
        rw [if_neg (by simp)] at sf st
        repeat' (first | refine CT.seqR ?_ | refine CT.region ?_ | refine CT.seq1 ?_ | refine CT.block ?_ | refine CT.condT rfl ?_ | refine CT.condF rfl ?_ | refine CT.condD rfl (fun _ => ?_) (fun _ => ?_) | refine CT.condN rfl (fun _ => ?_) (fun _ => ?_) | refine CT.cond rfl (fun _ => ?_) (fun _ => ?_) | refine CT.skip ?_ | refine CT.exit ?_ | refine CT.ret ?_ | refine CT.goto ?_ | refine CT.label ?_ | refine LT.nil ?_ | refine HT.nil1 ?_ | (refine LT.consT ?_; (first | refine T.alloc (e := 66) (z := .agg #[.bool false, .int .u64 0, .int .u64 0, .int .u64 0, .int .u64 0, .int .i64 0, .int .i64 0]) (cs := [.val (.bool false), .val (.int .u64 0), .val (.int .u64 0), .val (.int .u64 0), .val (.int .u64 0), .val (.int .i64 0), .val (.int .i64 0)]) (by kernel_rfl) rfl (by decide) rfl rfl ?_ | refine T.store (t := 66) rfl rfl rfl (by kernel_rfl) (by kernel_rfl) (Nat.le_of_ble_eq_true (by kernel_rfl)) rfl rfl ?_)) | ((first | apply LT.cons1 | (apply LT.guard1; rfl; rfl; rfl; decide)); (first | exact OpH.indexS (t := 32) (k := 7) (j := k) rfl slP rfl rfl (by kernel_rfl) hat rfl | exact arm38_1); decide) | refine LT.skip1 rfl rfl rfl (by decide) (by decide) ?_ | refine LT.skip2 rfl rfl (by decide) (by decide) ?_ | refine LT.partD rfl rfl (fun _ => ?_) (fun _ => ?_) | refine LT.partN rfl rfl (fun _ => ?_) (fun _ => ?_) | (refine LT.part1 rfl rfl (fun h => ?_) (fun h => ?_); (fail_if_success exact absurd h (by decide)); rotate_left; (fail_if_success exact absurd h (by decide)); rotate_left))
        refine ⟨k + 1, by omega, by omega, ?_⟩
        rw [sf, st]
        (apply Sub.mk; (focus (repeat (first | exact .nil | refine .other (.keep rfl rfl) ?_ | refine .other (.aref rfl rfl rfl) ?_ | refine .other (.val rfl (by first | rfl | (congr 1; first | omega | assumption | (symm; assumption)) | (simp; omega))) ?_ | refine .other .dead ?_ | refine .other (.sl rfl (.row _ _ _ _) rfl) ?_ | refine .other (.sl rfl (.sl _ _) rfl) ?_ | refine .other (.sl rfl (.full _ _) rfl) ?_ | refine .other (.slNil rfl rfl) ?_ | refine .rowNil rfl rfl rfl ?_ | refine .row rfl (by first | rfl | assumption | (rw [← List.map_append]; first | done | rfl | congr 1)) rfl rfl ?_))); (focus (repeat (first | exact .nil | refine KeepB.same rfl rfl rfl ?_ | refine KeepB.sameA rfl rfl rfl ?_))); (focus (repeat (first | exact .nil | refine KeepA.cons rfl (by first | rfl | assumption | exact List.map_set | exact List.map_set.symm | (rw [← List.map_append]; first | done | rfl | congr 1) | (congr 1; first | omega | assumption)) ?_))))
      | true =>
        by_cases c1 : n < e.len
        · rw [if_pos ⟨rfl, c1⟩] at sf
          rw [if_neg (fun h => by have := h.2; dsimp only at this; omega)] at st
          have c2 : ¬ e.len < n := by omega
          repeat' (first | refine CT.seqR ?_ | refine CT.region ?_ | refine CT.seq1 ?_ | refine CT.block ?_ | refine CT.condT rfl ?_ | refine CT.condF rfl ?_ | refine CT.condD rfl (fun _ => ?_) (fun _ => ?_) | refine CT.condN rfl (fun _ => ?_) (fun _ => ?_) | refine CT.cond rfl (fun _ => ?_) (fun _ => ?_) | refine CT.skip ?_ | refine CT.exit ?_ | refine CT.ret ?_ | refine CT.goto ?_ | refine CT.label ?_ | refine LT.nil ?_ | refine HT.nil1 ?_ | (refine LT.consT ?_; (first | refine T.alloc (e := 66) (z := .agg #[.bool false, .int .u64 0, .int .u64 0, .int .u64 0, .int .u64 0, .int .i64 0, .int .i64 0]) (cs := [.val (.bool false), .val (.int .u64 0), .val (.int .u64 0), .val (.int .u64 0), .val (.int .u64 0), .val (.int .i64 0), .val (.int .i64 0)]) (by kernel_rfl) rfl (by decide) rfl rfl ?_ | refine T.store (t := 66) rfl rfl rfl (by kernel_rfl) (by kernel_rfl) (Nat.le_of_ble_eq_true (by kernel_rfl)) rfl rfl ?_)) | ((first | apply LT.cons1 | (apply LT.guard1; rfl; rfl; rfl; decide)); (first | exact OpH.indexS (t := 32) (k := 7) (j := k) rfl slP rfl rfl (by kernel_rfl) hat rfl | exact arm38_1); decide) | refine LT.skip1 rfl rfl rfl (by decide) (by decide) ?_ | refine LT.skip2 rfl rfl (by decide) (by decide) ?_ | refine LT.partD rfl rfl (fun _ => ?_) (fun _ => ?_) | refine LT.partN rfl rfl (fun _ => ?_) (fun _ => ?_) | (refine LT.part1 rfl rfl (fun h => ?_) (fun h => ?_); (fail_if_success exact absurd h (by decide)); rotate_left; (fail_if_success exact absurd h (by decide)); rotate_left))
          refine ⟨k + 1, by omega, by omega, ?_⟩
          rw [sf, st]
          (apply Sub.mk; (focus (repeat (first | exact .nil | refine .other (.keep rfl rfl) ?_ | refine .other (.aref rfl rfl rfl) ?_ | refine .other (.val rfl (by first | rfl | (congr 1; first | omega | assumption | (symm; assumption)) | (simp; omega))) ?_ | refine .other .dead ?_ | refine .other (.sl rfl (.row _ _ _ _) rfl) ?_ | refine .other (.sl rfl (.sl _ _) rfl) ?_ | refine .other (.sl rfl (.full _ _) rfl) ?_ | refine .other (.slNil rfl rfl) ?_ | refine .rowNil rfl rfl rfl ?_ | refine .row rfl (by first | rfl | assumption | (rw [← List.map_append]; first | done | rfl | congr 1)) rfl rfl ?_))); (focus (repeat (first | exact .nil | refine KeepB.same rfl rfl rfl ?_ | refine KeepB.sameA rfl rfl rfl ?_))); (focus (repeat (first | exact .nil | refine KeepA.cons rfl (by first | rfl | assumption | exact List.map_set | exact List.map_set.symm | (rw [← List.map_append]; first | done | rfl | congr 1) | (congr 1; first | omega | assumption)) ?_))))
        · rw [if_neg (fun h => c1 h.2)] at sf
          by_cases c2 : e.len < n
          · rw [if_pos ⟨rfl, c2⟩] at st
            repeat' (first | refine CT.seqR ?_ | refine CT.region ?_ | refine CT.seq1 ?_ | refine CT.block ?_ | refine CT.condT rfl ?_ | refine CT.condF rfl ?_ | refine CT.condD rfl (fun _ => ?_) (fun _ => ?_) | refine CT.condN rfl (fun _ => ?_) (fun _ => ?_) | refine CT.cond rfl (fun _ => ?_) (fun _ => ?_) | refine CT.skip ?_ | refine CT.exit ?_ | refine CT.ret ?_ | refine CT.goto ?_ | refine CT.label ?_ | refine LT.nil ?_ | refine HT.nil1 ?_ | (refine LT.consT ?_; (first | refine T.alloc (e := 66) (z := .agg #[.bool false, .int .u64 0, .int .u64 0, .int .u64 0, .int .u64 0, .int .i64 0, .int .i64 0]) (cs := [.val (.bool false), .val (.int .u64 0), .val (.int .u64 0), .val (.int .u64 0), .val (.int .u64 0), .val (.int .i64 0), .val (.int .i64 0)]) (by kernel_rfl) rfl (by decide) rfl rfl ?_ | refine T.store (t := 66) rfl rfl rfl (by kernel_rfl) (by kernel_rfl) (Nat.le_of_ble_eq_true (by kernel_rfl)) rfl rfl ?_)) | ((first | apply LT.cons1 | (apply LT.guard1; rfl; rfl; rfl; decide)); (first | exact OpH.indexS (t := 32) (k := 7) (j := k) rfl slP rfl rfl (by kernel_rfl) hat rfl | exact arm38_1); decide) | refine LT.skip1 rfl rfl rfl (by decide) (by decide) ?_ | refine LT.skip2 rfl rfl (by decide) (by decide) ?_ | refine LT.partD rfl rfl (fun _ => ?_) (fun _ => ?_) | refine LT.partN rfl rfl (fun _ => ?_) (fun _ => ?_) | (refine LT.part1 rfl rfl (fun h => ?_) (fun h => ?_); (fail_if_success exact absurd h (by decide)); rotate_left; (fail_if_success exact absurd h (by decide)); rotate_left))
            refine ⟨k + 1, by omega, by omega, ?_⟩
            rw [sf, st]
            (apply Sub.mk; (focus (repeat (first | exact .nil | refine .other (.keep rfl rfl) ?_ | refine .other (.aref rfl rfl rfl) ?_ | refine .other (.val rfl (by first | rfl | (congr 1; first | omega | assumption | (symm; assumption)) | (simp; omega))) ?_ | refine .other .dead ?_ | refine .other (.sl rfl (.row _ _ _ _) rfl) ?_ | refine .other (.sl rfl (.sl _ _) rfl) ?_ | refine .other (.sl rfl (.full _ _) rfl) ?_ | refine .other (.slNil rfl rfl) ?_ | refine .rowNil rfl rfl rfl ?_ | refine .row rfl (by first | rfl | assumption | (rw [← List.map_append]; first | done | rfl | congr 1)) rfl rfl ?_))); (focus (repeat (first | exact .nil | refine KeepB.same rfl rfl rfl ?_ | refine KeepB.sameA rfl rfl rfl ?_))); (focus (repeat (first | exact .nil | refine KeepA.cons rfl (by first | rfl | assumption | exact List.map_set | exact List.map_set.symm | (rw [← List.map_append]; first | done | rfl | congr 1) | (congr 1; first | omega | assumption)) ?_))))
          · rw [if_neg (fun h => c2 h.2)] at st
            repeat' (first | refine CT.seqR ?_ | refine CT.region ?_ | refine CT.seq1 ?_ | refine CT.block ?_ | refine CT.condT rfl ?_ | refine CT.condF rfl ?_ | refine CT.condD rfl (fun _ => ?_) (fun _ => ?_) | refine CT.condN rfl (fun _ => ?_) (fun _ => ?_) | refine CT.cond rfl (fun _ => ?_) (fun _ => ?_) | refine CT.skip ?_ | refine CT.exit ?_ | refine CT.ret ?_ | refine CT.goto ?_ | refine CT.label ?_ | refine LT.nil ?_ | refine HT.nil1 ?_ | (refine LT.consT ?_; (first | refine T.alloc (e := 66) (z := .agg #[.bool false, .int .u64 0, .int .u64 0, .int .u64 0, .int .u64 0, .int .i64 0, .int .i64 0]) (cs := [.val (.bool false), .val (.int .u64 0), .val (.int .u64 0), .val (.int .u64 0), .val (.int .u64 0), .val (.int .i64 0), .val (.int .i64 0)]) (by kernel_rfl) rfl (by decide) rfl rfl ?_ | refine T.store (t := 66) rfl rfl rfl (by kernel_rfl) (by kernel_rfl) (Nat.le_of_ble_eq_true (by kernel_rfl)) rfl rfl ?_)) | ((first | apply LT.cons1 | (apply LT.guard1; rfl; rfl; rfl; decide)); (first | exact OpH.indexS (t := 32) (k := 7) (j := k) rfl slP rfl rfl (by kernel_rfl) hat rfl | exact arm38_1); decide) | refine LT.skip1 rfl rfl rfl (by decide) (by decide) ?_ | refine LT.skip2 rfl rfl (by decide) (by decide) ?_ | refine LT.partD rfl rfl (fun _ => ?_) (fun _ => ?_) | refine LT.partN rfl rfl (fun _ => ?_) (fun _ => ?_) | (refine LT.part1 rfl rfl (fun h => ?_) (fun h => ?_); (fail_if_success exact absurd h (by decide)); rotate_left; (fail_if_success exact absurd h (by decide)); rotate_left))
            refine ⟨k + 1, by omega, by omega, ?_⟩
            rw [sf, st]
            (apply Sub.mk; (focus (repeat (first | exact .nil | refine .other (.keep rfl rfl) ?_ | refine .other (.aref rfl rfl rfl) ?_ | refine .other (.val rfl (by first | rfl | (congr 1; first | omega | assumption | (symm; assumption)) | (simp; omega))) ?_ | refine .other .dead ?_ | refine .other (.sl rfl (.row _ _ _ _) rfl) ?_ | refine .other (.sl rfl (.sl _ _) rfl) ?_ | refine .other (.sl rfl (.full _ _) rfl) ?_ | refine .other (.slNil rfl rfl) ?_ | refine .rowNil rfl rfl rfl ?_ | refine .row rfl (by first | rfl | assumption | (rw [← List.map_append]; first | done | rfl | congr 1)) rfl rfl ?_))); (focus (repeat (first | exact .nil | refine KeepB.same rfl rfl rfl ?_ | refine KeepB.sameA rfl rfl rfl ?_))); (focus (repeat (first | exact .nil | refine KeepA.cons rfl (by first | rfl | assumption | exact List.map_set | exact List.map_set.symm | (rw [← List.map_append]; first | done | rfl | congr 1) | (congr 1; first | omega | assumption)) ?_))))
  · obtain rfl : k = l.length := by omega
    repeat' (first | refine CT.seqR ?_ | refine CT.region ?_ | refine CT.seq1 ?_ | refine CT.block ?_ | refine CT.condT rfl ?_ | refine CT.condF rfl ?_ | refine CT.condD rfl (fun _ => ?_) (fun _ => ?_) | refine CT.condN rfl (fun _ => ?_) (fun _ => ?_) | refine CT.cond rfl (fun _ => ?_) (fun _ => ?_) | refine CT.skip ?_ | refine CT.exit ?_ | refine CT.ret ?_ | refine CT.goto ?_ | refine CT.label ?_ | refine LT.nil ?_ | refine HT.nil1 ?_ | (refine LT.consT ?_; (first | refine T.alloc (e := 66) (z := .agg #[.bool false, .int .u64 0, .int .u64 0, .int .u64 0, .int .u64 0, .int .i64 0, .int .i64 0]) (cs := [.val (.bool false), .val (.int .u64 0), .val (.int .u64 0), .val (.int .u64 0), .val (.int .u64 0), .val (.int .i64 0), .val (.int .i64 0)]) (by kernel_rfl) rfl (by decide) rfl rfl ?_ | refine T.store (t := 66) rfl rfl rfl (by kernel_rfl) (by kernel_rfl) (Nat.le_of_ble_eq_true (by kernel_rfl)) rfl rfl ?_)) | ((first | apply LT.cons1 | (apply LT.guard1; rfl; rfl; rfl; decide)); (first | exact arm38_1); decide) | refine LT.skip1 rfl rfl rfl (by decide) (by decide) ?_ | refine LT.skip2 rfl rfl (by decide) (by decide) ?_ | refine LT.partD rfl rfl (fun _ => ?_) (fun _ => ?_) | refine LT.partN rfl rfl (fun _ => ?_) (fun _ => ?_) | (refine LT.part1 rfl rfl (fun h => ?_) (fun h => ?_); (fail_if_success exact absurd h (by decide)); rotate_left; (fail_if_success exact absurd h (by decide)); rotate_left))
    refine ⟨by first | exact .inl rfl | exact .inr rfl, _, (.cons (.tmp 4 (A := .val _) rfl (fun _ h => by cases h)) (.cons (.tmp 5 (A := .val _) rfl (fun _ h => by cases h)) .nil)), ?_, rfl⟩
    rfl
theorem arm9_1 {p : Prop} (h : p := by first | exact OpH.assign (v := .val _) rfl | exact OpH.assign (v := .sl _ _) rfl | exact OpH.assign (v := .row _ _ _ _) rfl | exact OpH.assign (v := .full _ _) rfl | exact OpH.assign (v := .ptr _ _) rfl | exact OpH.assign (v := .cptr _) rfl | exact OpH.assign (v := .cloB _ _) rfl | exact OpH.assign (v := .clo _ _) rfl | exact OpH.assign (v := .pr _) rfl | exact OpH.assign (v := .arow _) rfl | exact OpH.assign (v := .aptr _ _ _ _) rfl | exact OpH.assign (v := .asub _ _ _ _) rfl | exact OpH.assign (v := .tup _) rfl | exact OpH.move (v := .val _) rfl | exact OpH.move (v := .sl _ _) rfl | exact OpH.move (v := .row _ _ _ _) rfl | exact OpH.move (v := .full _ _) rfl | exact OpH.move (v := .ptr _ _) rfl | exact OpH.move (v := .cptr _) rfl | exact OpH.move (v := .cloB _ _) rfl | exact OpH.move (v := .clo _ _) rfl | exact OpH.move (v := .pr _) rfl | exact OpH.move (v := .arow _) rfl | exact OpH.move (v := .aptr _ _ _ _) rfl | exact OpH.move (v := .asub _ _ _ _) rfl | exact OpH.move (v := .tup _) rfl | exact OpH.lenM (t := 32) rfl (.sl _ _) (by kernel_rfl) | exact OpH.lenM (t := 32) rfl (.row _ _ _ _) (by kernel_rfl) | exact OpH.lenM (t := 32) rfl (.full _ _) (by kernel_rfl) | exact OpH.len (t := 32) rfl slP (by kernel_rfl) | exact OpH.lenNil (t := 32) rfl (by kernel_rfl) | exact OpH.bin rfl rfl (pb_gtr_t (by omega)) | exact OpH.bin rfl rfl (pb_gtr_f (by omega)) | exact OpH.bin rfl rfl (pb_gtr) | exact OpH.un rfl un_not | exact OpH.un rfl (un_neg (by omega)) | exact OpH.pick (b := true) (v := .val _) rfl rfl | exact OpH.pick (b := false) (v := .val _) rfl rfl | exact OpH.pick (b := true) (v := .sl _ _) rfl rfl | exact OpH.pick (b := false) (v := .sl _ _) rfl rfl | exact OpH.pick (b := true) (v := .row _ _ _ _) rfl rfl | exact OpH.pick (b := false) (v := .row _ _ _ _) rfl rfl | exact OpH.pick (b := true) (v := .full _ _) rfl rfl | exact OpH.pick (b := false) (v := .full _ _) rfl rfl | exact OpH.pickV rfl rfl rfl | exact OpH.callF Try.func18 rfl rfl rfl (g_awake13) rfl | exact OpH.fieldC (s := 36) (f := 1) (off := 4) rfl (by kernel_rfl) rfl | exact OpH.fieldB (s := 36) (f := 1) (off := 4) rfl (by kernel_rfl) rfl | exact OpH.loadC1 (t := 3) rfl (by kernel_rfl) rfl | exact OpH.loadB1 (t := 3) rfl rfl (by kernel_rfl) rfl | exact OpH.extract (v := .val _) rfl rfl (fun _ h => by cases h) | exact OpH.extract (v := .sl _ _) rfl rfl (fun _ h => by cases h) | exact OpH.extract (v := .row _ _ _ _) rfl rfl (fun _ h => by cases h) | exact OpH.extract (v := .full _ _) rfl rfl (fun _ h => by cases h) | exact loadC6 (t := 36) rfl (by kernel_rfl) | exact loadB6 (t := 36) rfl rfl (by kernel_rfl) rfl | exact OpH.bin rfl rfl (pb_leq_t (by omega)) | exact OpH.bin rfl rfl (pb_leq_f (by omega)) | exact OpH.bin rfl rfl (pb_leq) | exact OpH.bin rfl rfl (pb_geq_t (by omega)) | exact OpH.bin rfl rfl (pb_geq_f (by omega)) | exact OpH.bin rfl rfl (pb_geq)) : p := h
set_option maxRecDepth 100000 in
set_option maxHeartbeats 4000000 in
theorem g_CaoLengths (l : List Slt) (x : Ent) (hl : l.length ≤ 9223372036854775807) : Good Try.prog 9 [.sl 7 (l.map encS), .val (.agg #[.int .u64 x.w.v.x, .int .u64 x.w.v.y, .int .u64 x.w.m.x, .int .u64 x.w.m.y, .int .i64 x.len, .int .i64 x.act])] (.val (.bool true)) := by
  have gW := g_awake13
  refine Good.of_body (T := [(0, _), (1, _)]) Try.func9 rfl rfl rfl ?_
  intro K0 w0 hno
  by_cases hm : l.length ≤ 20
  · by_cases hk : AdjL (entsS l)
    · have gK := g_ploKept l true (by simp [hk]) (by omega)
      have gG := g_ploGap l x.len hk (by omega)
      have gC := g_Gap l x (by omega)
      have gO := g_cKept l (by omega)
      rw [adj_ordered hk] at gO
      obtain ⟨q1, q2⟩ := lens_gap l x
      generalize gapFrom l x = gf at gC q1
      generalize gapTo l x = gt at gC q2
      generalize fL l x.len l.length = ff at gG q1
      generalize tL l x.len l.length = tt at gG q2
      repeat' (first | refine CT.seqR ?_ | refine CT.region ?_ | refine CT.seq1 ?_ | refine CT.block ?_ | refine CT.condT rfl ?_ | refine CT.condF rfl ?_ | refine CT.condD rfl (fun _ => ?_) (fun _ => ?_) | refine CT.condN rfl (fun _ => ?_) (fun _ => ?_) | refine CT.cond rfl (fun _ => ?_) (fun _ => ?_) | refine CT.skip ?_ | refine CT.exit ?_ | refine CT.ret ?_ | refine CT.goto ?_ | refine CT.label ?_ | refine LT.nil ?_ | refine HT.nil1 ?_ | (refine LT.consT ?_; (first | refine T.box (e := 36) (cs := [.val _, .val _, .val _, .val _, .val _, .val _]) rfl rfl (by decide) rfl rfl ?_)) | ((first | apply LT.cons1 | (apply LT.guard1; rfl; rfl; rfl; decide)); (first | exact OpH.callF Try.func37 rfl rfl rfl gK rfl | exact OpH.callF Try.func38 rfl rfl rfl gG rfl | exact OpH.callF Try.func25 rfl rfl rfl gC rfl | exact OpH.callF Try.func29 rfl rfl rfl gO rfl | exact OpH.callF Try.func18 rfl rfl rfl gW rfl | exact arm9_1); decide) | refine LT.skip1 rfl rfl rfl (by decide) (by decide) ?_ | refine LT.skip2 rfl rfl (by decide) (by decide) ?_ | refine LT.partD rfl rfl (fun _ => ?_) (fun _ => ?_) | refine LT.partN rfl rfl (fun _ => ?_) (fun _ => ?_) | (refine LT.part1 rfl rfl (fun h => ?_) (fun h => ?_); (fail_if_success exact absurd h (by decide)); rotate_left; (fail_if_success exact absurd h (by decide)); rotate_left))
      refine ⟨by first | exact .inl rfl | exact .inr rfl, _, (.cons (.tmp 4 (A := .val _) rfl (fun _ h => by cases h)) .nil), ?_, rfl⟩
      rfl
    · have gK := g_ploKept l false (by simp [hk]) (by omega)
      repeat' (first | refine CT.seqR ?_ | refine CT.region ?_ | refine CT.seq1 ?_ | refine CT.block ?_ | refine CT.condT rfl ?_ | refine CT.condF rfl ?_ | refine CT.condD rfl (fun _ => ?_) (fun _ => ?_) | refine CT.condN rfl (fun _ => ?_) (fun _ => ?_) | refine CT.cond rfl (fun _ => ?_) (fun _ => ?_) | refine CT.skip ?_ | refine CT.exit ?_ | refine CT.ret ?_ | refine CT.goto ?_ | refine CT.label ?_ | refine LT.nil ?_ | refine HT.nil1 ?_ | (refine LT.consT ?_; (first | refine T.box (e := 36) (cs := [.val _, .val _, .val _, .val _, .val _, .val _]) rfl rfl (by decide) rfl rfl ?_)) | ((first | apply LT.cons1 | (apply LT.guard1; rfl; rfl; rfl; decide)); (first | exact OpH.callF Try.func37 rfl rfl rfl gK rfl | exact OpH.callF Try.func18 rfl rfl rfl gW rfl | exact arm9_1); decide) | refine LT.skip1 rfl rfl rfl (by decide) (by decide) ?_ | refine LT.skip2 rfl rfl (by decide) (by decide) ?_ | refine LT.partD rfl rfl (fun _ => ?_) (fun _ => ?_) | refine LT.partN rfl rfl (fun _ => ?_) (fun _ => ?_) | (refine LT.part1 rfl rfl (fun h => ?_) (fun h => ?_); (fail_if_success exact absurd h (by decide)); rotate_left; (fail_if_success exact absurd h (by decide)); rotate_left))
      refine ⟨by first | exact .inl rfl | exact .inr rfl, _, (.cons (.tmp 4 (A := .val _) rfl (fun _ h => by cases h)) .nil), ?_, rfl⟩
      rfl
  · repeat' (first | refine CT.seqR ?_ | refine CT.region ?_ | refine CT.seq1 ?_ | refine CT.block ?_ | refine CT.condT rfl ?_ | refine CT.condF rfl ?_ | refine CT.condD rfl (fun _ => ?_) (fun _ => ?_) | refine CT.condN rfl (fun _ => ?_) (fun _ => ?_) | refine CT.cond rfl (fun _ => ?_) (fun _ => ?_) | refine CT.skip ?_ | refine CT.exit ?_ | refine CT.ret ?_ | refine CT.goto ?_ | refine CT.label ?_ | refine LT.nil ?_ | refine HT.nil1 ?_ | (refine LT.consT ?_; (first | refine T.box (e := 36) (cs := [.val _, .val _, .val _, .val _, .val _, .val _]) rfl rfl (by decide) rfl rfl ?_)) | ((first | apply LT.cons1 | (apply LT.guard1; rfl; rfl; rfl; decide)); (first | exact OpH.callF Try.func18 rfl rfl rfl gW rfl | exact arm9_1); decide) | refine LT.skip1 rfl rfl rfl (by decide) (by decide) ?_ | refine LT.skip2 rfl rfl (by decide) (by decide) ?_ | refine LT.partD rfl rfl (fun _ => ?_) (fun _ => ?_) | refine LT.partN rfl rfl (fun _ => ?_) (fun _ => ?_) | (refine LT.part1 rfl rfl (fun h => ?_) (fun h => ?_); (fail_if_success exact absurd h (by decide)); rotate_left; (fail_if_success exact absurd h (by decide)); rotate_left))
    refine ⟨by first | exact .inl rfl | exact .inr rfl, _, (.cons (.tmp 4 (A := .val _) rfl (fun _ h => by cases h)) .nil), ?_, rfl⟩
    rfl
theorem w_CaoLengths (A : Option Addr) (c : Nat) (l : List Slt) (x : Ent) (w : World) (hcap : l.length ≤ c) (hnil : A = none → c = 0) (hr : Reads encS 7 w A l) (hoks : ∀ s ∈ l, OkS s) (hox : OkE x) :
    Calls Try.prog 9 #[.slice A l.length c, .agg #[.int .u64 x.w.v.x, .int .u64 x.w.v.y, .int .u64 x.w.m.x, .int .u64 x.w.m.y, .int .i64 x.len, .int .i64 x.act]] w fun e w' => e = .returned (.bool true) ∧ Below w.heap.size w w' :=
  (g_CaoLengths l x hr.1).run (.sl hcap hnil hr lenS oneS (.val .nil))
end Go.Proofs.Ytnklfbeiagkhiaa
