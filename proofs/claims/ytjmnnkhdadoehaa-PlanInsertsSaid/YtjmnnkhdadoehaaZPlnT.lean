/- plan.Twins, ref14.Twins. -/
import Derived.Test.YtjmnnkhdadoehaaZPlnR
namespace Go.Proofs.Ytjmnnkhdadoehaa
set_option linter.unusedSimpArgs false
set_option linter.unusedVariables false
open Go Go.RowKit Go.Shelf
section
variable {P : Program} {N : Nat} {K0 : Know} {w0 : Bas} {S : St} {d : Option Nat} {ty : TypeId} {pos : String} {aft : Array Edge} {g : Option (Nat × Bool)} {t : TypeId} {x y z : Operand}
theorem run_sub3 {k : Nat} (hk : elemSize P t = some k) {xs : Cells} {A : Option Addr} {cap : Nat} (h0 : xs.length ≤ cap) {h : Nat} {kk k2 : IntKind} (hh : h ≤ xs.length) (w : World) :
    (Instr.sliceAt t (.slice A xs.length cap) none (some (.int kk (h : Int))) (some (.int k2 (h : Int)))).run P w = .ok (.slice (if h = 0 then A else A.map (·.add (0 * k))) h h) w := by
  obtain ⟨e, ie, hu, hie, hks⟩ := elemSize_spec hk
  have e1 : (Instr.sliceBounds true xs.length cap none (some (.int kk (h : Int))) (some (.int k2 (h : Int)))).run P w = .ok (0, h, h) w := by
    simp [Instr.sliceBounds, Instr.sliceBound, asIntOf, show h ≤ cap by omega]
  have e2 : (Instr.sliceAt t (.slice A xs.length cap) none (some (.int kk (h : Int))) (some (.int k2 (h : Int)))).run P w = (Instr.slice t (.slice A xs.length cap) none (some (.int kk (h : Int))) (some (.int k2 (h : Int)))).run P w := by
    unfold Instr.sliceAt
    rw [Sem.run_bind, run_underlying hu]
    rfl
  rw [e2]
  unfold Instr.slice
  rw [Sem.run_bind, run_underlying hu]
  simp only [Result.andThen_ok]
  rw [Sem.run_bind, e1]
  simp [sizeOf, typeInfo, hie, hks]
theorem OpH.subMax {α : Type} {enc : α → List Value} {A : AV} {k h : Nat} {xs : List α} {kk k2 : IntKind} {i j : Int} (h1 : S.opv x = A) (hA : A.Sl k (xs.map enc)) (hk : elemSize P t = some k) (h2 : S.opv y = .val (.int kk i)) (hi : i = (h : Int)) (h3 : S.opv z = .val (.int k2 j)) (hj : j = (h : Int)) (hh : h ≤ xs.length) :
    OpH P N K0 w0 ⟨d, .slice t x none (some y) (some z), ty, pos, aft, g⟩ S (.sl k ((xs.take h).map enc)) := by
  subst hi hj
  refine OpH.ret (fun S' K n a w hs _ hop => ?_) (no_row (by intros; intro h; cases h) (by intros; intro h; cases h))
  have e1 := hs.opv x
  rw [hop x (by simp [Op.operands]), h1] at e1
  obtain ⟨A', cap, e3, h3', h4, hr⟩ := hA.slice e1
  have f1 := hs.opv y
  rw [hop y (by simp [Op.operands]), h2] at f1
  have f2 := hs.opv z
  rw [hop z (by simp [Op.operands]), h3] at f2
  have hl : ((xs.take h).map enc).length = h := by simp; omega
  refine ⟨.slice (if h = 0 then A' else A'.map (·.add (0 * k))) h h, ?_, ⟨_, h, by rw [hl], by rw [hl]; exact Nat.le_refl _, fun hn => ?_, ?_⟩⟩
  · simp only [execOp]
    rw [e3, Sem.run_bind, Option.map_none, Option.map_some, Option.map_some, show a.eval y = _ from f1, show a.eval z = _ from f2, run_sub3 hk h3' (by rw [List.length_map]; exact hh)]
    rfl
  · split at hn
    · assumption
    · cases A' with
      | none =>
        have := hr.none_nil
        rw [List.map_eq_nil_iff] at this
        subst this
        simpa using hh
      | some a => cases hn
  · rw [List.map_take]
    split
    · rename_i hz
      rw [hz, List.take_zero]
      exact Rd.nil_
    · have := hr.part 0 h
      rwa [List.drop_zero] at this
end
def twinAt (l : List Slt) (k j : Nat) : Bool := (nth l k).valid && (nth l j).valid && eAlike (nth l k).e (nth l j).e
def hasTwin (l : List Slt) (k : Nat) : Bool := (List.range k).any (twinAt l k)
theorem hasTwin_t {l : List Slt} {k j : Nat} (h : j < k) (ht : twinAt l k j = true) : hasTwin l k = true := List.any_eq_true.2 ⟨j, List.mem_range.2 h, ht⟩
theorem hasTwin_f {l : List Slt} {k : Nat} (h : ∀ j, j < k → twinAt l k j = false) : hasTwin l k = false := by
  cases e : hasTwin l k with
  | false => rfl
  | true =>
    obtain ⟨j, hj, ht⟩ := List.any_eq_true.1 e
    rw [h j (List.mem_range.1 hj)] at ht; cases ht
def twinsT (l : List Slt) : Nat → List Wrt
  | 0 => []
  | k + 1 => twinsT l k ++ (if hasTwin l k = true then [⟨k, zeroS⟩] else [])
theorem twinsT_len (l : List Slt) : ∀ k, (twinsT l k).length ≤ k
  | 0 => Nat.le_refl _
  | k + 1 => by
    have := twinsT_len l k
    simp only [twinsT, List.length_append]
    split
    · rw [List.length_singleton]; omega
    · rw [List.length_nil]; omega
def twinsL (l : List Slt) : List Wrt := twinsT l l.length
attribute [local irreducible] OpH OpT LT CT HT Good
theorem arm42_1 {p : Prop} (h : p := by first | exact OpH.assign (v := .val _) rfl | exact OpH.assign (v := .sl _ _) rfl | exact OpH.assign (v := .row _ _ _ _) rfl | exact OpH.assign (v := .full _ _) rfl | exact OpH.assign (v := .ptr _ _) rfl | exact OpH.assign (v := .cptr _) rfl | exact OpH.assign (v := .cloB _ _) rfl | exact OpH.assign (v := .clo _ _) rfl | exact OpH.assign (v := .pr _) rfl | exact OpH.assign (v := .arow _) rfl | exact OpH.assign (v := .aptr _ _ _ _) rfl | exact OpH.assign (v := .asub _ _ _ _) rfl | exact OpH.assign (v := .tup _) rfl | exact OpH.move (v := .val _) rfl | exact OpH.move (v := .sl _ _) rfl | exact OpH.move (v := .row _ _ _ _) rfl | exact OpH.move (v := .full _ _) rfl | exact OpH.move (v := .ptr _ _) rfl | exact OpH.move (v := .cptr _) rfl | exact OpH.move (v := .cloB _ _) rfl | exact OpH.move (v := .clo _ _) rfl | exact OpH.move (v := .pr _) rfl | exact OpH.move (v := .arow _) rfl | exact OpH.move (v := .aptr _ _ _ _) rfl | exact OpH.move (v := .asub _ _ _ _) rfl | exact OpH.move (v := .tup _) rfl | exact OpH.lenM (t := 22) rfl (.sl _ _) (by kernel_rfl) | exact OpH.lenM (t := 22) rfl (.row _ _ _ _) (by kernel_rfl) | exact OpH.lenM (t := 22) rfl (.full _ _) (by kernel_rfl) | exact OpH.len (t := 22) rfl slP (by kernel_rfl) | exact OpH.lenNil (t := 22) rfl (by kernel_rfl) | exact OpH.bin rfl rfl (pb_lss_t (by omega)) | exact OpH.bin rfl rfl (pb_lss_f (by omega)) | exact OpH.bin rfl rfl (pb_lss) | exact OpH.indexS (t := 22) (k := 7) rfl slP rfl rfl (by kernel_rfl) (map_at bd) rfl | exact loadC7 (t := 61) rfl (by kernel_rfl) | exact loadB7 (t := 61) rfl rfl (by kernel_rfl) rfl | exact OpH.subHi (t := 22) (k := 7) rfl slP (by kernel_rfl) rfl rfl bd | exact OpH.fieldC (s := 61) (f := 0) (off := 0) rfl (by kernel_rfl) rfl | exact OpH.fieldB (s := 61) (f := 0) (off := 0) rfl (by kernel_rfl) rfl | exact OpH.loadC1 (t := 4) rfl (by kernel_rfl) rfl | exact OpH.loadB1 (t := 4) rfl rfl (by kernel_rfl) rfl | exact OpH.pick (b := true) (v := .val _) rfl rfl | exact OpH.pick (b := false) (v := .val _) rfl rfl | exact OpH.pick (b := true) (v := .sl _ _) rfl rfl | exact OpH.pick (b := false) (v := .sl _ _) rfl rfl | exact OpH.pick (b := true) (v := .row _ _ _ _) rfl rfl | exact OpH.pick (b := false) (v := .row _ _ _ _) rfl rfl | exact OpH.pick (b := true) (v := .full _ _) rfl rfl | exact OpH.pick (b := false) (v := .full _ _) rfl rfl | exact OpH.pickV rfl rfl rfl | exact OpH.fieldC (s := 61) (f := 1) (off := 1) rfl (by kernel_rfl) rfl | exact OpH.fieldB (s := 61) (f := 1) (off := 1) rfl (by kernel_rfl) rfl | exact loadC6 (t := 29) rfl (by kernel_rfl) | exact loadB6 (t := 29) rfl rfl (by kernel_rfl) rfl | exact OpH.callF Try.func41 rfl rfl rfl (g_Alike _ _ _ _ _ _ _ _ _ _ _ _) rfl | exact build_64_0 rfl | exact OpH.build (t := 64) (cells := #[_, _, _, _, _, _, _, _]) (by kernel_rfl) rfl | exact lit_33_1 rfl | exact OpH.bin rfl rfl (pb_inc (by omega)) | exact OpH.bin rfl rfl (pb_addN rfl (by omega)) | exact OpH.bin rfl rfl (pb_add (by omega)) | exact OpH.bin rfl rfl (pb_addw)) : p := h
set_option maxRecDepth 100000 in
set_option maxHeartbeats 4000000 in
theorem g_Twins (l : List Slt) (hl : l.length ≤ 60000) : Good Try.prog 42 [.sl 7 (l.map encS)] (.row 3 64 8 ((twinsL l).map encX)) := by
  unfold twinsL
  refine Good.of_body (T := [(0, _)]) Try.func42 rfl rfl rfl ?_
  intro K0 w0 hno
  repeat' (first | refine CT.seqR ?_ | refine CT.region ?_ | refine CT.seq1 ?_ | refine CT.block ?_ | refine CT.condT rfl ?_ | refine CT.condF rfl ?_ | refine CT.condD rfl (fun _ => ?_) (fun _ => ?_) | refine CT.condN rfl (fun _ => ?_) (fun _ => ?_) | refine CT.cond rfl (fun _ => ?_) (fun _ => ?_) | refine CT.skip ?_ | refine CT.exit ?_ | refine CT.ret ?_ | refine LT.nil ?_ | refine HT.nil1 ?_ | (refine LT.consT ?_; (first | refine T.alloc (e := 61) (z := .agg #[.bool false, .int .u64 0, .int .u64 0, .int .u64 0, .int .u64 0, .int .i64 0, .int .i64 0]) (cs := [.val (.bool false), .val (.int .u64 0), .val (.int .u64 0), .val (.int .u64 0), .val (.int .u64 0), .val (.int .i64 0), .val (.int .i64 0)]) (by kernel_rfl) rfl (by decide) rfl rfl ?_ | refine T.store (t := 61) rfl rfl rfl (by kernel_rfl) (by kernel_rfl) (Nat.le_of_ble_eq_true (by kernel_rfl)) rfl rfl ?_ | refine T.appNil (t := 33) (e := 64) (k := 8) (bytes := 64) rfl rfl srP (by kernel_rfl) szP (by decide) rfl ?_ | refine T.app (t := 33) (e := 64) (k := 8) (bytes := 64) rfl rfl srP (by kernel_rfl) szP (by decide) rfl rfl ?_)) | ((first | apply LT.cons1 | (apply LT.guard1; rfl; rfl; rfl; decide)); (first | exact arm42_1); decide) | refine LT.skip1 rfl rfl rfl (by decide) (by decide) ?_ | refine LT.skip2 rfl rfl (by decide) (by decide) ?_ | refine LT.partD rfl rfl (fun _ => ?_) (fun _ => ?_) | refine LT.partN rfl rfl (fun _ => ?_) (fun _ => ?_) | (refine LT.part1 rfl rfl (fun h => ?_) (fun h => ?_); (fail_if_success exact absurd h (by decide)); rotate_left; (fail_if_success exact absurd h (by decide)); rotate_left))
  refine CT.loopX (fun k : Nat => (⟨[(0, .sl 7 (l.map encS)), (3, .row 3 64 8 ((twinsT l k).map encX)), (8, .sl 7 (l.map encS)), (9, .val (.int .i64 l.length)), (10, .val (.int .i64 k))], [], []⟩ : St))
    (fun k => k ≤ l.length) (fun k => l.length - k) 0 ?_ (by omega) ?_
  · rw [show twinsT l 0 = [] from rfl]
    (apply Sub.mk; (focus (repeat (first | exact .nil | refine .other (.keep rfl rfl) ?_ | refine .other (.aref rfl rfl rfl) ?_ | refine .other (.val rfl (by first | rfl | (congr 1; first | omega | assumption | (symm; assumption)) | (simp; omega))) ?_ | refine .other .dead ?_ | refine .other (.sl rfl (.row _ _ _ _) rfl) ?_ | refine .other (.sl rfl (.sl _ _) rfl) ?_ | refine .other (.sl rfl (.full _ _) rfl) ?_ | refine .other (.slNil rfl rfl) ?_ | refine .rowNil rfl rfl rfl ?_ | refine .row rfl (by first | rfl | assumption | (rw [← List.map_append]; first | done | rfl | congr 1)) rfl rfl ?_))); (focus (repeat (first | exact .nil | refine KeepB.same rfl rfl rfl ?_ | refine KeepB.sameA rfl rfl rfl ?_))); (focus (repeat (first | exact .nil | refine KeepA.cons rfl (by first | rfl | assumption | exact List.map_set | exact List.map_set.symm | (rw [← List.map_append]; first | done | rfl | congr 1) | (congr 1; first | omega | assumption)) ?_))))
  rintro k hk
  by_cases hlt : k < l.length
  · have hel := twinsT_len l k
    have hst : twinsT l (k + 1) = twinsT l k ++ (if hasTwin l k = true then [⟨k, zeroS⟩] else []) := rfl
    generalize twinsT l k = ws at hst hel ⊢
    obtain ⟨⟨v, e⟩, hs⟩ : ∃ s, l[k] = s := ⟨_, rfl⟩
    have hat := slot_at hlt hs
    have hn := nth_is hlt hs
    have htl : (l.take k).length = k := by rw [List.length_take]; omega
    repeat' (first | refine CT.seqR ?_ | refine CT.region ?_ | refine CT.seq1 ?_ | refine CT.block ?_ | refine CT.condT rfl ?_ | refine CT.condF rfl ?_ | refine CT.condD rfl (fun _ => ?_) (fun _ => ?_) | refine CT.condN rfl (fun _ => ?_) (fun _ => ?_) | refine CT.cond rfl (fun _ => ?_) (fun _ => ?_) | refine CT.skip ?_ | refine CT.exit ?_ | refine CT.ret ?_ | refine LT.nil ?_ | refine HT.nil1 ?_ | (refine LT.consT ?_; (first | refine T.alloc (e := 61) (z := .agg #[.bool false, .int .u64 0, .int .u64 0, .int .u64 0, .int .u64 0, .int .i64 0, .int .i64 0]) (cs := [.val (.bool false), .val (.int .u64 0), .val (.int .u64 0), .val (.int .u64 0), .val (.int .u64 0), .val (.int .i64 0), .val (.int .i64 0)]) (by kernel_rfl) rfl (by decide) rfl rfl ?_ | refine T.store (t := 61) rfl rfl rfl (by kernel_rfl) (by kernel_rfl) (Nat.le_of_ble_eq_true (by kernel_rfl)) rfl rfl ?_ | refine T.appNil (t := 33) (e := 64) (k := 8) (bytes := 64) rfl rfl srP (by kernel_rfl) szP (by decide) rfl ?_ | refine T.app (t := 33) (e := 64) (k := 8) (bytes := 64) rfl rfl srP (by kernel_rfl) szP (by decide) rfl rfl ?_)) | ((first | apply LT.cons1 | (apply LT.guard1; rfl; rfl; rfl; decide)); (first | exact OpH.indexS (t := 22) (k := 7) (j := k) rfl slP rfl rfl (by kernel_rfl) hat rfl | exact OpH.subMax (t := 22) (k := 7) (h := k) rfl slP (by kernel_rfl) rfl rfl rfl rfl (by omega) | exact arm42_1); decide) | refine LT.skip1 rfl rfl rfl (by decide) (by decide) ?_ | refine LT.skip2 rfl rfl (by decide) (by decide) ?_ | refine LT.partD rfl rfl (fun _ => ?_) (fun _ => ?_) | refine LT.partN rfl rfl (fun _ => ?_) (fun _ => ?_) | (refine LT.part1 rfl rfl (fun h => ?_) (fun h => ?_); (fail_if_success exact absurd h (by decide)); rotate_left; (fail_if_success exact absurd h (by decide)); rotate_left))
    refine CT.loopX (fun j : Nat => (⟨[(0, .sl 7 (l.map encS)), (3, .row 3 64 8 (ws.map encX)), (4, .val (.int .i64 k)), (5, .ptr 5 0), (8, .sl 7 (l.map encS)), (9, .val (.int .i64 l.length)), (10, .val (.int .i64 k)), (18, .sl 7 ((l.take k).map encS)), (19, .val (.int .i64 (l.take k).length)), (20, .val (.int .i64 j))], [(5, (encS ⟨v, e⟩).map AV.val)], []⟩ : St))
      (fun j => j ≤ k ∧ ∀ i, i < j → twinAt l k i = false) (fun j => k - j) 0 ?_ ⟨by omega, fun i h => by omega⟩ ?_
    · (apply Sub.mk; (focus (repeat (first | exact .nil | refine .other (.keep rfl rfl) ?_ | refine .other (.aref rfl rfl rfl) ?_ | refine .other (.val rfl (by first | rfl | (congr 1; first | omega | assumption | (symm; assumption)) | (simp; omega))) ?_ | refine .other .dead ?_ | refine .other (.sl rfl (.row _ _ _ _) rfl) ?_ | refine .other (.sl rfl (.sl _ _) rfl) ?_ | refine .other (.sl rfl (.full _ _) rfl) ?_ | refine .other (.slNil rfl rfl) ?_ | refine .rowNil rfl rfl rfl ?_ | refine .row rfl (by first | rfl | assumption | (rw [← List.map_append]; first | done | rfl | congr 1)) rfl rfl ?_))); (focus (repeat (first | exact .nil | refine KeepB.same rfl rfl rfl ?_ | refine KeepB.sameA rfl rfl rfl ?_))); (focus (repeat (first | exact .nil | refine KeepA.cons rfl (by first | rfl | assumption | exact List.map_set | exact List.map_set.symm | (rw [← List.map_append]; first | done | rfl | congr 1) | (congr 1; first | omega | assumption)) ?_))))
    rintro j ⟨hj, hc⟩
    by_cases hjk : j < k
    · have hjl : j < l.length := by omega
      obtain ⟨⟨v2, e2⟩, hs2⟩ : ∃ s, l[j] = s := ⟨_, rfl⟩
      have hat2 : ((l.take k).map encS)[j]? = some (encS ⟨v2, e2⟩) := by rw [List.map_take, List.getElem?_take, if_pos hjk]; exact slot_at hjl hs2
      have hn2 := nth_is hjl hs2
      have htw : twinAt l k j = (v && v2 && eAlike e e2) := by unfold twinAt; rw [hn, hn2]
      have gA : Good Try.prog 41 [.val (.agg #[.int .u64 e.w.v.x, .int .u64 e.w.v.y, .int .u64 e.w.m.x, .int .u64 e.w.m.y, .int .i64 e.len, .int .i64 e.act]), .val (.agg #[.int .u64 e2.w.v.x, .int .u64 e2.w.v.y, .int .u64 e2.w.m.x, .int .u64 e2.w.m.y, .int .i64 e2.len, .int .i64 e2.act])] (.val (.bool (eAlike e e2))) := g_Alike _ _ _ _ _ _ _ _ _ _ _ _
      generalize eAlike e e2 = al at gA htw
      have hcase : (v = true ∧ v2 = true ∧ al = true) ∨ v = false ∨ (v = true ∧ v2 = false) ∨ (v = true ∧ v2 = true ∧ al = false) := by cases v <;> cases v2 <;> cases al <;> simp
      rcases hcase with ⟨rfl, rfl, rfl⟩ | hno2
      · rw [if_pos (hasTwin_t hjk htw)] at hst
        repeat' (first | refine CT.seqR ?_ | refine CT.region ?_ | refine CT.seq1 ?_ | refine CT.block ?_ | refine CT.condT rfl ?_ | refine CT.condF rfl ?_ | refine CT.condD rfl (fun _ => ?_) (fun _ => ?_) | refine CT.condN rfl (fun _ => ?_) (fun _ => ?_) | refine CT.cond rfl (fun _ => ?_) (fun _ => ?_) | refine CT.skip ?_ | refine CT.exit ?_ | refine CT.ret ?_ | refine LT.nil ?_ | refine HT.nil1 ?_ | (refine LT.consT ?_; (first | refine T.alloc (e := 61) (z := .agg #[.bool false, .int .u64 0, .int .u64 0, .int .u64 0, .int .u64 0, .int .i64 0, .int .i64 0]) (cs := [.val (.bool false), .val (.int .u64 0), .val (.int .u64 0), .val (.int .u64 0), .val (.int .u64 0), .val (.int .i64 0), .val (.int .i64 0)]) (by kernel_rfl) rfl (by decide) rfl rfl ?_ | refine T.store (t := 61) rfl rfl rfl (by kernel_rfl) (by kernel_rfl) (Nat.le_of_ble_eq_true (by kernel_rfl)) rfl rfl ?_ | refine T.appNil (t := 33) (e := 64) (k := 8) (bytes := 64) rfl rfl srP (by kernel_rfl) szP (by decide) rfl ?_ | refine T.app (t := 33) (e := 64) (k := 8) (bytes := 64) rfl rfl srP (by kernel_rfl) szP (by decide) rfl rfl ?_)) | ((first | apply LT.cons1 | (apply LT.guard1; rfl; rfl; rfl; decide)); (first | exact OpH.indexS (t := 22) (k := 7) (j := j) rfl slP rfl rfl (by kernel_rfl) hat2 rfl | exact OpH.callF Try.func41 rfl rfl rfl gA rfl | exact arm42_1); decide) | refine LT.skip1 rfl rfl rfl (by decide) (by decide) ?_ | refine LT.skip2 rfl rfl (by decide) (by decide) ?_ | refine LT.partD rfl rfl (fun _ => ?_) (fun _ => ?_) | refine LT.partN rfl rfl (fun _ => ?_) (fun _ => ?_) | (refine LT.part1 rfl rfl (fun h => ?_) (fun h => ?_); (fail_if_success exact absurd h (by decide)); rotate_left; (fail_if_success exact absurd h (by decide)); rotate_left))
        refine ⟨k + 1, by omega, by omega, ?_⟩
        rw [hst]
        (apply Sub.mk; (focus (repeat (first | exact .nil | refine .other (.keep rfl rfl) ?_ | refine .other (.aref rfl rfl rfl) ?_ | refine .other (.val rfl (by first | rfl | (congr 1; first | omega | assumption | (symm; assumption)) | (simp; omega))) ?_ | refine .other .dead ?_ | refine .other (.sl rfl (.row _ _ _ _) rfl) ?_ | refine .other (.sl rfl (.sl _ _) rfl) ?_ | refine .other (.sl rfl (.full _ _) rfl) ?_ | refine .other (.slNil rfl rfl) ?_ | refine .rowNil rfl rfl rfl ?_ | refine .row rfl (by first | rfl | assumption | (rw [← List.map_append]; first | done | rfl | congr 1)) rfl rfl ?_))); (focus (repeat (first | exact .nil | refine KeepB.same rfl rfl rfl ?_ | refine KeepB.sameA rfl rfl rfl ?_))); (focus (repeat (first | exact .nil | refine KeepA.cons rfl (by first | rfl | assumption | exact List.map_set | exact List.map_set.symm | (rw [← List.map_append]; first | done | rfl | congr 1) | (congr 1; first | omega | assumption)) ?_))))
      · have hc2 : ∀ i, i < j + 1 → twinAt l k i = false := fun i hi => by
          by_cases ei : i = j
          · subst ei
            rw [htw]
            rcases hno2 with h | ⟨_, h⟩ | ⟨_, _, h⟩ <;> rw [h] <;> simp
          · exact hc i (by omega)
        rcases hno2 with rfl | ⟨rfl, rfl⟩ | ⟨rfl, rfl, rfl⟩
        all_goals
          repeat' (first | refine CT.seqR ?_ | refine CT.region ?_ | refine CT.seq1 ?_ | refine CT.block ?_ | refine CT.condT rfl ?_ | refine CT.condF rfl ?_ | refine CT.condD rfl (fun _ => ?_) (fun _ => ?_) | refine CT.condN rfl (fun _ => ?_) (fun _ => ?_) | refine CT.cond rfl (fun _ => ?_) (fun _ => ?_) | refine CT.skip ?_ | refine CT.exit ?_ | refine CT.ret ?_ | refine LT.nil ?_ | refine HT.nil1 ?_ | (refine LT.consT ?_; (first | refine T.alloc (e := 61) (z := .agg #[.bool false, .int .u64 0, .int .u64 0, .int .u64 0, .int .u64 0, .int .i64 0, .int .i64 0]) (cs := [.val (.bool false), .val (.int .u64 0), .val (.int .u64 0), .val (.int .u64 0), .val (.int .u64 0), .val (.int .i64 0), .val (.int .i64 0)]) (by kernel_rfl) rfl (by decide) rfl rfl ?_ | refine T.store (t := 61) rfl rfl rfl (by kernel_rfl) (by kernel_rfl) (Nat.le_of_ble_eq_true (by kernel_rfl)) rfl rfl ?_ | refine T.appNil (t := 33) (e := 64) (k := 8) (bytes := 64) rfl rfl srP (by kernel_rfl) szP (by decide) rfl ?_ | refine T.app (t := 33) (e := 64) (k := 8) (bytes := 64) rfl rfl srP (by kernel_rfl) szP (by decide) rfl rfl ?_)) | ((first | apply LT.cons1 | (apply LT.guard1; rfl; rfl; rfl; decide)); (first | exact OpH.indexS (t := 22) (k := 7) (j := j) rfl slP rfl rfl (by kernel_rfl) hat2 rfl | exact OpH.callF Try.func41 rfl rfl rfl gA rfl | exact arm42_1); decide) | refine LT.skip1 rfl rfl rfl (by decide) (by decide) ?_ | refine LT.skip2 rfl rfl (by decide) (by decide) ?_ | refine LT.partD rfl rfl (fun _ => ?_) (fun _ => ?_) | refine LT.partN rfl rfl (fun _ => ?_) (fun _ => ?_) | (refine LT.part1 rfl rfl (fun h => ?_) (fun h => ?_); (fail_if_success exact absurd h (by decide)); rotate_left; (fail_if_success exact absurd h (by decide)); rotate_left))
          refine ⟨j + 1, ⟨by omega, hc2⟩, by omega, ?_⟩
          (apply Sub.mk; (focus (repeat (first | exact .nil | refine .other (.keep rfl rfl) ?_ | refine .other (.aref rfl rfl rfl) ?_ | refine .other (.val rfl (by first | rfl | (congr 1; first | omega | assumption | (symm; assumption)) | (simp; omega))) ?_ | refine .other .dead ?_ | refine .other (.sl rfl (.row _ _ _ _) rfl) ?_ | refine .other (.sl rfl (.sl _ _) rfl) ?_ | refine .other (.sl rfl (.full _ _) rfl) ?_ | refine .other (.slNil rfl rfl) ?_ | refine .rowNil rfl rfl rfl ?_ | refine .row rfl (by first | rfl | assumption | (rw [← List.map_append]; first | done | rfl | congr 1)) rfl rfl ?_))); (focus (repeat (first | exact .nil | refine KeepB.same rfl rfl rfl ?_ | refine KeepB.sameA rfl rfl rfl ?_))); (focus (repeat (first | exact .nil | refine KeepA.cons rfl (by first | rfl | assumption | exact List.map_set | exact List.map_set.symm | (rw [← List.map_append]; first | done | rfl | congr 1) | (congr 1; first | omega | assumption)) ?_))))
    · obtain rfl : j = k := by omega
      rw [if_neg (by rw [hasTwin_f hc]; decide), List.append_nil] at hst
      repeat' (first | refine CT.seqR ?_ | refine CT.region ?_ | refine CT.seq1 ?_ | refine CT.block ?_ | refine CT.condT rfl ?_ | refine CT.condF rfl ?_ | refine CT.condD rfl (fun _ => ?_) (fun _ => ?_) | refine CT.condN rfl (fun _ => ?_) (fun _ => ?_) | refine CT.cond rfl (fun _ => ?_) (fun _ => ?_) | refine CT.skip ?_ | refine CT.exit ?_ | refine CT.ret ?_ | refine LT.nil ?_ | refine HT.nil1 ?_ | (refine LT.consT ?_; (first | refine T.alloc (e := 61) (z := .agg #[.bool false, .int .u64 0, .int .u64 0, .int .u64 0, .int .u64 0, .int .i64 0, .int .i64 0]) (cs := [.val (.bool false), .val (.int .u64 0), .val (.int .u64 0), .val (.int .u64 0), .val (.int .u64 0), .val (.int .i64 0), .val (.int .i64 0)]) (by kernel_rfl) rfl (by decide) rfl rfl ?_ | refine T.store (t := 61) rfl rfl rfl (by kernel_rfl) (by kernel_rfl) (Nat.le_of_ble_eq_true (by kernel_rfl)) rfl rfl ?_ | refine T.appNil (t := 33) (e := 64) (k := 8) (bytes := 64) rfl rfl srP (by kernel_rfl) szP (by decide) rfl ?_ | refine T.app (t := 33) (e := 64) (k := 8) (bytes := 64) rfl rfl srP (by kernel_rfl) szP (by decide) rfl rfl ?_)) | ((first | apply LT.cons1 | (apply LT.guard1; rfl; rfl; rfl; decide)); (first | exact arm42_1); decide) | refine LT.skip1 rfl rfl rfl (by decide) (by decide) ?_ | refine LT.skip2 rfl rfl (by decide) (by decide) ?_ | refine LT.partD rfl rfl (fun _ => ?_) (fun _ => ?_) | refine LT.partN rfl rfl (fun _ => ?_) (fun _ => ?_) | (refine LT.part1 rfl rfl (fun h => ?_) (fun h => ?_); (fail_if_success exact absurd h (by decide)); rotate_left; (fail_if_success exact absurd h (by decide)); rotate_left))
      refine ⟨j + 1, by omega, by omega, ?_⟩
      rw [hst]
      (apply Sub.mk; (focus (repeat (first | exact .nil | refine .other (.keep rfl rfl) ?_ | refine .other (.aref rfl rfl rfl) ?_ | refine .other (.val rfl (by first | rfl | (congr 1; first | omega | assumption | (symm; assumption)) | (simp; omega))) ?_ | refine .other .dead ?_ | refine .other (.sl rfl (.row _ _ _ _) rfl) ?_ | refine .other (.sl rfl (.sl _ _) rfl) ?_ | refine .other (.sl rfl (.full _ _) rfl) ?_ | refine .other (.slNil rfl rfl) ?_ | refine .rowNil rfl rfl rfl ?_ | refine .row rfl (by first | rfl | assumption | (rw [← List.map_append]; first | done | rfl | congr 1)) rfl rfl ?_))); (focus (repeat (first | exact .nil | refine KeepB.same rfl rfl rfl ?_ | refine KeepB.sameA rfl rfl rfl ?_))); (focus (repeat (first | exact .nil | refine KeepA.cons rfl (by first | rfl | assumption | exact List.map_set | exact List.map_set.symm | (rw [← List.map_append]; first | done | rfl | congr 1) | (congr 1; first | omega | assumption)) ?_))))
  · obtain rfl : k = l.length := by omega
    repeat' (first | refine CT.seqR ?_ | refine CT.region ?_ | refine CT.seq1 ?_ | refine CT.block ?_ | refine CT.condT rfl ?_ | refine CT.condF rfl ?_ | refine CT.condD rfl (fun _ => ?_) (fun _ => ?_) | refine CT.condN rfl (fun _ => ?_) (fun _ => ?_) | refine CT.cond rfl (fun _ => ?_) (fun _ => ?_) | refine CT.skip ?_ | refine CT.exit ?_ | refine CT.ret ?_ | refine LT.nil ?_ | refine HT.nil1 ?_ | (refine LT.consT ?_; (first | refine T.alloc (e := 61) (z := .agg #[.bool false, .int .u64 0, .int .u64 0, .int .u64 0, .int .u64 0, .int .i64 0, .int .i64 0]) (cs := [.val (.bool false), .val (.int .u64 0), .val (.int .u64 0), .val (.int .u64 0), .val (.int .u64 0), .val (.int .i64 0), .val (.int .i64 0)]) (by kernel_rfl) rfl (by decide) rfl rfl ?_ | refine T.store (t := 61) rfl rfl rfl (by kernel_rfl) (by kernel_rfl) (Nat.le_of_ble_eq_true (by kernel_rfl)) rfl rfl ?_ | refine T.appNil (t := 33) (e := 64) (k := 8) (bytes := 64) rfl rfl srP (by kernel_rfl) szP (by decide) rfl ?_ | refine T.app (t := 33) (e := 64) (k := 8) (bytes := 64) rfl rfl srP (by kernel_rfl) szP (by decide) rfl rfl ?_)) | ((first | apply LT.cons1 | (apply LT.guard1; rfl; rfl; rfl; decide)); (first | exact arm42_1); decide) | refine LT.skip1 rfl rfl rfl (by decide) (by decide) ?_ | refine LT.skip2 rfl rfl (by decide) (by decide) ?_ | refine LT.partD rfl rfl (fun _ => ?_) (fun _ => ?_) | refine LT.partN rfl rfl (fun _ => ?_) (fun _ => ?_) | (refine LT.part1 rfl rfl (fun h => ?_) (fun h => ?_); (fail_if_success exact absurd h (by decide)); rotate_left; (fail_if_success exact absurd h (by decide)); rotate_left))
    refine ⟨by first | exact .inl rfl | exact .inr rfl, _, (.cons (.tmp 2 (A := .row _ _ _ _) rfl (fun _ h => by cases h)) .nil), ?_, rfl⟩
    rfl
end Go.Proofs.Ytjmnnkhdadoehaa
