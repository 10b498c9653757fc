/- plan: Order, orders, Kept, Insert, each, One. -/
import Derived.Test.YtjmnnkhdadoehaaGreatYPloI
import Derived.Test.YtjmnnkhdadoehaaGreatYMergeF
namespace Go.Proofs.YtjmnnkhdadoehaaGreat
set_option linter.unusedSimpArgs false
set_option linter.unusedVariables false
open Go Go.RowKit Go.Shelf
theorem Good.args {P : Program} {f : FuncId} {As As' : List AV} {res : AV} (h : Good P f As res) (hl : As'.length = As.length)
    (hc : ∀ (i : Nat) A A' K c, As[i]? = some A → As'[i]? = some A' → Rep1 K Nm.nil A' c → Rep1 K Nm.nil A c) : Good P f As' res := by
  intro K w cargs hok hlen hrep
  refine h K w cargs hok (by rw [hlen, hl]) fun i A c hA hi => ?_
  have hi' : i < As'.length := by rw [hl]; exact (List.getElem?_eq_some_iff.1 hA).1
  exact hc i A _ K c hA (List.getElem?_eq_getElem hi') (hrep i _ c (List.getElem?_eq_getElem hi') hi)
theorem fnIs_val {P : Program} {spec : List AV → AV → Prop} {f : FuncId} {fn : Func} {b : Code} (hf : P.funcs[f]? = some fn) (hname : (fn.name == "runtime.NumGoroutine") = false) (hb : fn.body = some b) (hg : ∀ As res, spec As res → Good P f As res) (K : Know) {c : Value}
    (h : Rep1 K Nm.nil (.val (.func (.func f) #[] #[])) c) : Rep1 K Nm.nil (.pr (FnIs P spec)) c := fun K' _ =>
  ⟨f, fn, b, [], [], h, hf, hname, hb, rfl, fun i A p hA => by simp at hA, fun As res hs => by rw [List.append_nil]; exact hg As res hs⟩
theorem fnIs_clo {P : Program} {spec : List AV → AV → Prop} {f : FuncId} {fn : Func} {b : Code} {vs : List Value} (hf : P.funcs[f]? = some fn) (hname : (fn.name == "runtime.NumGoroutine") = false) (hb : fn.body = some b) (hg : ∀ As res, spec As res → Good P f (As ++ [.cptr vs]) res) (K : Know) {c : Value}
    (h : Rep1 K Nm.nil (.clo f [vs]) c) : Rep1 K Nm.nil (.pr (FnIs P spec)) c := fun K' hK' => by
  obtain ⟨ps, e, h1, h2⟩ := h
  refine ⟨f, fn, b, ps, [.cptr vs], e, hf, hname, hb, by simpa using h1, fun i A p hA hp => ?_, hg⟩
  cases i with
  | zero =>
    simp at hA
    subst hA
    exact (h2 0 p vs hp rfl).mono hK'
  | succ i => simp at hA
def HoldIs (h : Ent → Bool) (As : List AV) (res : AV) : Prop := ∃ y : Ent, As = [.val (.agg #[.int .u64 y.w.v.x, .int .u64 y.w.v.y, .int .u64 y.w.m.x, .int .u64 y.w.m.y, .int .i64 y.len, .int .i64 y.act])] ∧ res = .val (.bool (h y))
def zeroS : Slt := ⟨false, ⟨⟨⟨0, 0⟩, ⟨0, 0⟩⟩, 0, 0⟩⟩
def eachT (l : List Slt) (x : Ent) (to : Slt) (h : Ent → Bool) : Nat → List Wrt
  | 0 => []
  | k + 1 => eachT l x to h k ++ (if (nth l k).valid = true ∧ eAlike (nth l k).e x = true ∧ h (nth l k).e = true then [⟨k, to⟩] else [])
def eachL (l : List Slt) (x : Ent) (to : Slt) (h : Ent → Bool) : List Wrt := eachT l x to h l.length
theorem eachT_len (l : List Slt) (x : Ent) (to : Slt) (h : Ent → Bool) : ∀ k, (eachT l x to h k).length ≤ k
  | 0 => Nat.le_refl _
  | k + 1 => by
    have := eachT_len l x to h k
    simp only [eachT, List.length_append]
    split
    · rw [List.length_singleton]; omega
    · rw [List.length_nil]; omega
def insPl (order : Int) (l : List Slt) (x : Ent) : List Wrt × Int := if order = 0 then insP l x else if order = 1 then insC l x else ([], 1)
def keptPl (order : Int) (l : List Slt) : Bool := if order = 0 then keptP l else if order = 1 then ordered (entsS l) else false
def ordPl (n : Int) : Bool := decide (n = 0) || decide (n = 1)
def onePl (order : Int) (l : List Slt) (s : Stp) : List Wrt × Int :=
  if ordPl order = false ∨ eRight s.e = false then ([], 1) else
  if s.kind = 0 then insPl order l s.e else
  if s.kind = 1 then (eachL l s.e ⟨true, s.e⟩ (fun y => decide (y.act ≠ s.e.act)), 0) else
  if s.kind = 2 then (eachL l s.e zeroS (fun _ => true), 0) else ([], 1)
theorem insC_len (l : List Slt) (x : Ent) : (insC l x).1.length ≤ l.length + 3 := by
  have h1 : (wayB l (gapTo l x)).length ≤ l.length + 1 + 1 := wayG_length _ _
  have h2 : (wayA l (gapFrom l x - 1)).length ≤ l.length + 1 + 1 := wayG_length _ _
  have key : ∀ w : List Int, w.length ≤ l.length + 1 + 1 → (writesOf l x w).length ≤ l.length + 3 := fun w hw => by
    unfold writesOf
    rw [List.length_append, writesTo_length, List.length_singleton]; omega
  unfold insC
  split
  · simp
  split
  · simp
  split
  · exact key _ (by simp)
  split
  · simp
  split
  · exact key _ h2
  · exact key _ h1
theorem onePl_len (order : Int) (l : List Slt) (s : Stp) : (onePl order l s).1.length ≤ l.length + 3 := by
  have h1 := insP_length l s.e
  have h2 := insC_len l s.e
  unfold onePl insPl
  split
  · simp
  split
  · split
    · exact h1
    · split
      · exact h2
      · simp
  split
  · have := eachT_len l s.e ⟨true, s.e⟩ (fun y => decide (y.act ≠ s.e.act)) l.length
    unfold eachL; dsimp only; omega
  split
  · have := eachT_len l s.e zeroS (fun _ => true) l.length
    unfold eachL; dsimp only; omega
  · simp
attribute [local irreducible] OpH OpT LT CT HT Good
theorem arm12_1 {p : Prop} (h : p := by first | exact fm0 | exact fm53 | exact fm1 | exact fm54 | exact fm55 | fail) : p := h
set_option maxRecDepth 100000 in
set_option maxHeartbeats 2000000 in
theorem g_Order (n : Int) : Good Tryz.prog 12 [.val (.int .i64 n)] (.val (.bool (ordPl n))) := by
  unfold ordPl
  refine Good.of_body (T := [(0, _)]) Tryz.func12 rfl rfl rfl ?_
  intro K0 w0 hno
  by_cases h0 : n = 0
  · repeat' (first | ((first | apply LT.cons1 | (apply LT.guard1; rfl; rfl; rfl; decide)); exact arm12_1; (try decide)) | refine stp ?_ | (refine stq ?_ ?_ <;> intro _))
    refine ⟨by first | exact .inl rfl | exact .inr rfl, _, (.cons (.tmp 2 (A := .val _) rfl (fun _ h => by cases h)) .nil), ?_, rfl⟩
    simp [h0, retsV]
  · by_cases h1 : n = 1
    · repeat' (first | ((first | apply LT.cons1 | (apply LT.guard1; rfl; rfl; rfl; decide)); exact arm12_1; (try decide)) | refine stp ?_ | (refine stq ?_ ?_ <;> intro _))
      refine ⟨by first | exact .inl rfl | exact .inr rfl, _, (.cons (.tmp 2 (A := .val _) rfl (fun _ h => by cases h)) .nil), ?_, rfl⟩
      simp [h1, retsV]
    · repeat' (first | ((first | apply LT.cons1 | (apply LT.guard1; rfl; rfl; rfl; decide)); exact arm12_1; (try decide)) | refine stp ?_ | (refine stq ?_ ?_ <;> intro _))
      refine ⟨by first | exact .inl rfl | exact .inr rfl, _, (.cons (.tmp 2 (A := .val _) rfl (fun _ h => by cases h)) .nil), ?_, rfl⟩
      simp [h0, h1, retsV]
def fnV (f : Nat) : Value := .func (.func f) #[] #[]
def ordersC : Cells := [[fnV 80, fnV 81], [fnV 82, fnV 83]]
section
variable {N : Nat} {K0 : Know} {w0 : Bas} {S : St} {d : Option Nat} {ty : TypeId} {pos : String} {aft : Array Edge} {g : Option (Nat × Bool)} {x0 x1 : Operand}
theorem ord_b1 : OpH Tryz.prog N K0 w0 ⟨d, .build 97 #[(0, .func 80), (1, .func 81)], ty, pos, aft, g⟩ S (.val (.agg #[fnV 80, fnV 81])) := OpH.build (by kernel_rfl) (by kernel_rfl)
theorem ord_b2 : OpH Tryz.prog N K0 w0 ⟨d, .build 97 #[(0, .func 82), (1, .func 83)], ty, pos, aft, g⟩ S (.val (.agg #[fnV 82, fnV 83])) := OpH.build (by kernel_rfl) (by kernel_rfl)
theorem lit_98_2 (h0 : S.opv x0 = .val (.agg #[fnV 80, fnV 81])) (h1 : S.opv x1 = .val (.agg #[fnV 82, fnV 83])) :
    OpH Tryz.prog N K0 w0 ⟨d, .buildSlice 98 2 #[(0, x0), (1, x1)], ty, pos, aft, g⟩ S (.full 2 ordersC) := by
  have he0 : S.ev x0 = .agg #[fnV 80, fnV 81] := by unfold St.ev; rw [h0]
  have he1 : S.ev x1 = .agg #[fnV 82, fnV 83] := by unfold St.ev; rw [h1]
  exact OpH.lit (t := 98) (e := 97) (k := 2) (xs := ordersC) (by kernel_rfl) (by simp [h0, h1, AV.isVal]) (by simp [he0, he1, Value.cells, ordersC]) (by simp only [List.map_toArray, List.map_cons, List.map_nil, he0, he1]; kernel_rfl) rfl rfl rfl
end
theorem arm45_1 {p : Prop} (h : p := by first | exact fm0 | exact OpH.build (t := 97) (cells := #[_, _]) (by kernel_rfl) rfl | exact lit_98_2 rfl rfl | fail) : p := h
set_option maxRecDepth 100000 in
set_option maxHeartbeats 2000000 in
theorem g_orders : Good Tryz.prog 45 [] (.sl 2 ordersC) := by
  refine Good.of_body (T := []) Tryz.func45 rfl rfl rfl ?_
  intro K0 w0 hno
  repeat' (first | (refine CT.sub (S' := ⟨[(0, .sl 2 ordersC)], [], []⟩) ?_ (CT.ret ?_)) | (apply LT.cons1; (first | exact ord_b1 | exact ord_b2); (try decide)) | (apply LT.cons1; exact arm45_1; (try decide)) | refine stp ?_ | (refine stq ?_ ?_ <;> intro _))
  · exact subT
  · refine ⟨by first | exact .inl rfl | exact .inr rfl, _, (.cons (.tmp 0 (A := .sl _ _) rfl (fun _ h => by cases h)) .nil), ?_, rfl⟩
    rfl
theorem arm37_1 {p : Prop} (h : p := by first | exact fm0 | exact fm53 | exact fm56 | exact OpH.indexS (t := 98) (k := 2) rfl slP rfl rfl (by kernel_rfl) (map_at bd) rfl | exact OpH.fieldC (s := 97) (f := 1) (off := 1) rfl (by kernel_rfl) rfl | exact OpH.fieldB (s := 97) (f := 1) (off := 1) rfl (by kernel_rfl) rfl | exact OpH.loadC1 (t := 95) rfl (by kernel_rfl) rfl | exact OpH.loadB1 (t := 95) rfl rfl (by kernel_rfl) rfl | exact fm63 | exact fm15 | fail) : p := h
theorem stpPlnA_1 {G G' : Prop} (h' : G') (h : Hidd G' → G := by (first | (intro h; (first | refine CT.seqD (id := 3) 11 (by kernel_rfl) (by kernel_rfl) ?_ | refine CT.draw (id := 3) 11 (by kernel_rfl) (by kernel_rfl) ?_ | (refine LT.consT ?_; (first | refine T.box (e := 46) (cs := [.val _, .val _, .val _, .val _, .val _, .val _]) rfl rfl (by decide) rfl rfl ?_)) | ((first | apply LT.cons1 | apply HT.cons1); exact arm37_1; (try decide))); exact h.1) | fail)) : G := h ⟨h'⟩
set_option maxRecDepth 100000 in
set_option maxHeartbeats 4000000 in
theorem g_plnInsert (order : Int) (l : List Slt) (x : Ent) (hl : l.length ≤ 60000) : Good Tryz.prog 37 [.val (.int .i64 order), .sl 7 (l.map encS), .val (.agg #[.int .u64 x.w.v.x, .int .u64 x.w.v.y, .int .u64 x.w.m.x, .int .u64 x.w.m.y, .int .i64 x.len, .int .i64 x.act])] (.tup [.sl 8 ((insPl order l x).1.map encX), .val (.int .i64 (insPl order l x).2)]) := by
  have gO := g_Order order
  have gS := g_orders
  by_cases h0 : order = 0
  · subst h0
    have gI := g_pInsert l x hl
    rw [show insPl 0 l x = insP l x from rfl]
    rw [show ordPl 0 = true from rfl] at gO
    generalize insP l x = r at gI ⊢
    obtain ⟨ws, er⟩ := r
    dsimp only at gI ⊢
    refine Good.of_body (T := [(0, _), (1, _), (2, _)]) Tryz.func37 rfl rfl rfl ?_
    intro K0 w0 hno
    repeat' (first | ((first | apply LT.cons1 | apply HT.cons1); (first | exact OpH.callF Tryz.func12 rfl rfl rfl gO rfl | exact OpH.callF Tryz.func45 rfl rfl rfl gS rfl | exact OpH.indexS (t := 98) (k := 2) (j := 0) rfl slP rfl rfl (by kernel_rfl) rfl rfl | exact OpH.callV rfl Tryz.func81 rfl rfl rfl gI rfl); (try decide)) | refine stpPlnA_1 ?_ | refine stp ?_ | (refine stq ?_ ?_ <;> intro _))
    refine ⟨by first | exact .inl rfl | exact .inr rfl, _, (.cons (.tmp 6 (A := .sl _ _) rfl (fun _ h => by cases h)) (.cons (.tmp 7 (A := .val _) rfl (fun _ h => by cases h)) .nil)), ?_, rfl⟩
    rfl
  · by_cases h1 : order = 1
    · subst h1
      have gI := g_cInsert l x hl
      rw [show insPl 1 l x = insC l x from rfl]
      rw [show ordPl 1 = true from rfl] at gO
      generalize insC l x = r at gI ⊢
      obtain ⟨ws, er⟩ := r
      dsimp only at gI ⊢
      refine Good.of_body (T := [(0, _), (1, _), (2, _)]) Tryz.func37 rfl rfl rfl ?_
      intro K0 w0 hno
      repeat' (first | ((first | apply LT.cons1 | apply HT.cons1); (first | exact OpH.callF Tryz.func12 rfl rfl rfl gO rfl | exact OpH.callF Tryz.func45 rfl rfl rfl gS rfl | exact OpH.indexS (t := 98) (k := 2) (j := 1) rfl slP rfl rfl (by kernel_rfl) rfl rfl | exact OpH.callV rfl Tryz.func83 rfl rfl rfl gI rfl); (try decide)) | refine stpPlnA_1 ?_ | refine stp ?_ | (refine stq ?_ ?_ <;> intro _))
      refine ⟨by first | exact .inl rfl | exact .inr rfl, _, (.cons (.tmp 6 (A := .sl _ _) rfl (fun _ h => by cases h)) (.cons (.tmp 7 (A := .val _) rfl (fun _ h => by cases h)) .nil)), ?_, rfl⟩
      rfl
    · have e : insPl order l x = ([], 1) := by unfold insPl; rw [if_neg h0, if_neg h1]
      rw [e]
      rw [show ordPl order = false by unfold ordPl; rw [decide_eq_false h0, decide_eq_false h1]; rfl] at gO
      refine Good.of_body (T := [(0, _), (1, _), (2, _)]) Tryz.func37 rfl rfl rfl ?_
      intro K0 w0 hno
      repeat' (first | (refine CT.sub (S' := ⟨[(6, .sl 8 (([] : List Wrt).map encX)), (7, .val (.int .i64 1))], [], []⟩) ?_ (CT.ret ?_)) | ((first | apply LT.cons1 | apply HT.cons1); (first | exact OpH.callF Tryz.func12 rfl rfl rfl gO rfl); (try decide)) | refine stpPlnA_1 ?_ | refine stp ?_ | (refine stq ?_ ?_ <;> intro _))
      · exact subT
      · refine ⟨by first | exact .inl rfl | exact .inr rfl, _, (.cons (.tmp 6 (A := .sl _ _) rfl (fun _ h => by cases h)) (.cons (.tmp 7 (A := .val _) rfl (fun _ h => by cases h)) .nil)), ?_, rfl⟩
        rfl
theorem arm16_1 {p : Prop} (h : p := by first | exact fm0 | exact fm53 | exact OpH.indexS (t := 98) (k := 2) rfl slP rfl rfl (by kernel_rfl) (map_at bd) rfl | exact OpH.fieldC (s := 97) (f := 0) (off := 0) rfl (by kernel_rfl) rfl | exact OpH.fieldB (s := 97) (f := 0) (off := 0) rfl (by kernel_rfl) rfl | exact OpH.loadC1 (t := 94) rfl (by kernel_rfl) rfl | exact OpH.loadB1 (t := 94) rfl rfl (by kernel_rfl) rfl | exact fm54 | exact fm55 | fail) : p := h
set_option maxRecDepth 100000 in
set_option maxHeartbeats 4000000 in
theorem g_plnKept (order : Int) (l : List Slt) (hl : l.length ≤ 60000) : Good Tryz.prog 16 [.val (.int .i64 order), .sl 7 (l.map encS)] (.val (.bool (keptPl order l))) := by
  have gO := g_Order order
  have gS := g_orders
  by_cases h0 : order = 0
  · subst h0
    have gI := g_ploKept l (keptP l) (keptP_adj l) hl
    rw [show keptPl 0 l = keptP l from rfl]
    rw [show ordPl 0 = true from rfl] at gO
    refine Good.of_body (T := [(0, _), (1, _)]) Tryz.func16 rfl rfl rfl ?_
    intro K0 w0 hno
    repeat' (first | ((first | apply LT.cons1 | (apply LT.guard1; rfl; rfl; rfl; decide)); (first | exact OpH.callF Tryz.func12 rfl rfl rfl gO rfl | exact OpH.callF Tryz.func45 rfl rfl rfl gS rfl | exact OpH.indexS (t := 98) (k := 2) (j := 0) rfl slP rfl rfl (by kernel_rfl) rfl rfl | exact OpH.callV rfl Tryz.func80 rfl rfl rfl gI rfl); (try decide)) | ((first | apply LT.cons1 | (apply LT.guard1; rfl; rfl; rfl; decide)); exact arm16_1; (try decide)) | refine stp ?_ | (refine stq ?_ ?_ <;> intro _))
    refine ⟨by first | exact .inl rfl | exact .inr rfl, _, (.cons (.tmp 4 (A := .val _) rfl (fun _ h => by cases h)) .nil), ?_, rfl⟩
    rfl
  · by_cases h1 : order = 1
    · subst h1
      have gI := g_cKept l (by omega)
      rw [show keptPl 1 l = ordered (entsS l) from rfl]
      rw [show ordPl 1 = true from rfl] at gO
      refine Good.of_body (T := [(0, _), (1, _)]) Tryz.func16 rfl rfl rfl ?_
      intro K0 w0 hno
      repeat' (first | ((first | apply LT.cons1 | (apply LT.guard1; rfl; rfl; rfl; decide)); (first | exact OpH.callF Tryz.func12 rfl rfl rfl gO rfl | exact OpH.callF Tryz.func45 rfl rfl rfl gS rfl | exact OpH.indexS (t := 98) (k := 2) (j := 1) rfl slP rfl rfl (by kernel_rfl) rfl rfl | exact OpH.callV rfl Tryz.func82 rfl rfl rfl gI rfl); (try decide)) | ((first | apply LT.cons1 | (apply LT.guard1; rfl; rfl; rfl; decide)); exact arm16_1; (try decide)) | refine stp ?_ | (refine stq ?_ ?_ <;> intro _))
      refine ⟨by first | exact .inl rfl | exact .inr rfl, _, (.cons (.tmp 4 (A := .val _) rfl (fun _ h => by cases h)) .nil), ?_, rfl⟩
      rfl
    · have e : keptPl order l = false := by unfold keptPl; rw [if_neg h0, if_neg h1]
      rw [e]
      rw [show ordPl order = false by unfold ordPl; rw [decide_eq_false h0, decide_eq_false h1]; rfl] at gO
      refine Good.of_body (T := [(0, _), (1, _)]) Tryz.func16 rfl rfl rfl ?_
      intro K0 w0 hno
      repeat' (first | ((first | apply LT.cons1 | (apply LT.guard1; rfl; rfl; rfl; decide)); (first | exact OpH.callF Tryz.func12 rfl rfl rfl gO rfl); (try decide)) | ((first | apply LT.cons1 | (apply LT.guard1; rfl; rfl; rfl; decide)); exact arm16_1; (try decide)) | refine stp ?_ | (refine stq ?_ ?_ <;> intro _))
      refine ⟨by first | exact .inl rfl | exact .inr rfl, _, (.cons (.tmp 4 (A := .val _) rfl (fun _ h => by cases h)) .nil), ?_, rfl⟩
      rfl
theorem arm63_1 {p : Prop} (h : p := by first | exact fm0 | exact fm53 | exact fm45 | exact fm6 | exact fm40 | exact fm65 | exact fm27 | exact fm18 | exact fm52 | exact fm28 | exact fm19 | exact fm63 | exact fm13 | exact fm54 | exact fm55 | exact build_50_0_1 rfl rfl | exact fm11 | exact lit_37_1 rfl | exact fm4 | fail) : p := h
theorem stpPlnA_2 {G G' : Prop} (h' : G') (h : Hidd G' → G := by (first | (intro h; (first | (refine LT.consT ?_; (first | refine T.box (e := 46) (cs := [.val _, .val _, .val _, .val _, .val _, .val _]) rfl rfl (by decide) rfl rfl ?_ | refine T.box (e := 48) (cs := [.val _, .val _, .val _, .val _, .val _, .val _, .val _]) rfl rfl (by decide) rfl rfl ?_ | refine T.alloc (e := 48) (z := .agg #[.bool false, .int .u64 0, .int .u64 0, .int .u64 0, .int .u64 0, .int .i64 0, .int .i64 0]) (cs := [.val (.bool false), .val (.int .u64 0), .val (.int .u64 0), .val (.int .u64 0), .val (.int .u64 0), .val (.int .i64 0), .val (.int .i64 0)]) (by kernel_rfl) rfl (by decide) rfl rfl ?_ | refine T.store (t := 48) rfl rfl rfl (by kernel_rfl) (by kernel_rfl) (Nat.le_of_ble_eq_true (by kernel_rfl)) rfl rfl ?_ | refine T.appNil (t := 37) (e := 50) (k := 8) (bytes := 64) rfl rfl srP (by kernel_rfl) szP (by decide) rfl ?_ | refine T.app (t := 37) (e := 50) (k := 8) (bytes := 64) rfl rfl srP (by kernel_rfl) szP (by decide) rfl rfl ?_)) | ((first | apply LT.cons1 | (apply LT.guard1; rfl; rfl; rfl; decide)); exact arm63_1; (try decide))); exact h.1) | fail)) : G := h ⟨h'⟩
set_option maxRecDepth 100000 in
set_option maxHeartbeats 4000000 in
theorem g_each (l : List Slt) (x : Ent) (to : Slt) (h : Ent → Bool) (hl : l.length ≤ 60000) : Good Tryz.prog 63 [.sl 7 (l.map encS), .val (.agg #[.int .u64 x.w.v.x, .int .u64 x.w.v.y, .int .u64 x.w.m.x, .int .u64 x.w.m.y, .int .i64 x.len, .int .i64 x.act]), .val (.agg #[.bool to.valid, .int .u64 to.e.w.v.x, .int .u64 to.e.w.v.y, .int .u64 to.e.w.m.x, .int .u64 to.e.w.m.y, .int .i64 to.e.len, .int .i64 to.e.act]), .pr (FnIs Tryz.prog (HoldIs h))] (.row 9 50 8 ((eachL l x to h).map encX)) := by
  unfold eachL
  refine Good.of_body (T := [(0, _), (1, _), (2, _), (3, _)]) Tryz.func63 rfl rfl rfl ?_
  intro K0 w0 hno
  repeat' (first | refine stpPlnA_2 ?_ | refine stp ?_ | (refine stq ?_ ?_ <;> intro _))
  refine CT.loopX (fun k : Nat => (⟨[(3, .pr (FnIs Tryz.prog (HoldIs h))), (5, .ptr 5 0), (6, .ptr 6 0), (9, .row 9 50 8 ((eachT l x to h k).map encX)), (12, .sl 7 (l.map encS)), (13, .val (.int .i64 l.length)), (14, .val (.int .i64 k))], [(5, (encE x).map AV.val), (6, (encS to).map AV.val)], []⟩ : St))
    (fun k => k ≤ l.length) (fun k => l.length - k) 0 ?_ (by omega) ?_
  · rw [show eachT l x to h 0 = [] from rfl]
    exact subT
  rintro k hk
  by_cases hlt : k < l.length
  · have hel := eachT_len l x to h k
    have hst : eachT l x to h (k + 1) = eachT l x to h k ++ (if (nth l k).valid = true ∧ eAlike (nth l k).e x = true ∧ h (nth l k).e = true then [⟨k, to⟩] else []) := rfl
    generalize eachT l x to h k = ws at hst hel ⊢
    cases hs : l[k] with
    | mk v e =>
      have hat := slot_at hlt hs
      have hn := nth_is hlt hs
      rw [hn] at hst
      cases v with
      | false =>
        rw [if_neg (fun c => by cases c.1), List.append_nil] at hst
        repeat' (first | ((first | apply LT.cons1 | (apply LT.guard1; rfl; rfl; rfl; decide)); (first | exact OpH.indexS (t := 30) (k := 7) (j := k) rfl slP rfl rfl (by kernel_rfl) hat rfl); (try decide)) | refine stpPlnA_2 ?_ | refine stp ?_ | (refine stq ?_ ?_ <;> intro _))
        refine ⟨k + 1, by omega, by omega, ?_⟩
        rw [hst]
        exact subT
      | true =>
        have gA : Good Tryz.prog 65 [.val (.agg #[.int .u64 e.w.v.x, .int .u64 e.w.v.y, .int .u64 e.w.m.x, .int .u64 e.w.m.y, .int .i64 e.len, .int .i64 e.act]), .val (.agg #[.int .u64 x.w.v.x, .int .u64 x.w.v.y, .int .u64 x.w.m.x, .int .u64 x.w.m.y, .int .i64 x.len, .int .i64 x.act])] (.val (.bool (eAlike e x))) := g_Alike _ _ _ _ _ _ _ _ _ _ _ _
        cases ha : eAlike e x with
        | false =>
          rw [ha] at gA
          rw [if_neg (fun c => by rw [ha] at c; cases c.2.1), List.append_nil] at hst
          repeat' (first | ((first | apply LT.cons1 | (apply LT.guard1; rfl; rfl; rfl; decide)); (first | exact OpH.indexS (t := 30) (k := 7) (j := k) rfl slP rfl rfl (by kernel_rfl) hat rfl | exact OpH.callF Tryz.func65 rfl rfl rfl gA rfl); (try decide)) | refine stpPlnA_2 ?_ | refine stp ?_ | (refine stq ?_ ?_ <;> intro _))
          refine ⟨k + 1, by omega, by omega, ?_⟩
          rw [hst]
          exact subT
        | true =>
          rw [ha] at gA
          cases hh : h e with
          | false =>
            rw [if_neg (fun c => by have := c.2.2; rw [hh] at this; cases this), List.append_nil] at hst
            repeat' (first | ((first | apply LT.cons1 | (apply LT.guard1; rfl; rfl; rfl; decide)); (first | exact OpH.indexS (t := 30) (k := 7) (j := k) rfl slP rfl rfl (by kernel_rfl) hat rfl | exact OpH.callF Tryz.func65 rfl rfl rfl gA rfl | exact OpH.callP (res := .val (.bool false)) rfl rfl ⟨e, rfl, by rw [hh]⟩ rfl); (try decide)) | refine stpPlnA_2 ?_ | refine stp ?_ | (refine stq ?_ ?_ <;> intro _))
            refine ⟨k + 1, by omega, by omega, ?_⟩
            rw [hst]
            exact subT
          | true =>
            rw [if_pos ⟨rfl, ha, hh⟩] at hst
            repeat' (first | ((first | apply LT.cons1 | (apply LT.guard1; rfl; rfl; rfl; decide)); (first | exact OpH.indexS (t := 30) (k := 7) (j := k) rfl slP rfl rfl (by kernel_rfl) hat rfl | exact OpH.callF Tryz.func65 rfl rfl rfl gA rfl | exact OpH.callP (res := .val (.bool true)) rfl rfl ⟨e, rfl, by rw [hh]⟩ rfl); (try decide)) | refine stpPlnA_2 ?_ | refine stp ?_ | (refine stq ?_ ?_ <;> intro _))
            refine ⟨k + 1, by omega, by omega, ?_⟩
            rw [hst]
            exact subT
  · obtain rfl : k = l.length := by omega
    repeat' (first | refine stpPlnA_2 ?_ | refine stp ?_ | (refine stq ?_ ?_ <;> intro _))
    refine ⟨by first | exact .inl rfl | exact .inr rfl, _, (.cons (.tmp 8 (A := .row _ _ _ _) rfl (fun _ h => by cases h)) .nil), ?_, rfl⟩
    rfl
theorem arm62_1 {p : Prop} (h : p := by first | exact fm0 | exact fm26 | exact fm17 | exact fm50 | exact OpH.fieldC (s := 82) (f := 1) (off := 1) rfl (by kernel_rfl) rfl | exact OpH.fieldB (s := 82) (f := 1) (off := 1) rfl (by kernel_rfl) rfl | exact fm7 | fail) : p := h
theorem stpPlnA_3 {G G' : Prop} (h' : G') (h : Hidd G' → G := by (first | (intro h; (first | (refine LT.consT ?_; (first | refine T.box (e := 46) (cs := [.val _, .val _, .val _, .val _, .val _, .val _]) rfl rfl (by decide) rfl rfl ?_)) | (apply LT.cons1; exact arm62_1; (try decide))); exact h.1) | fail)) : G := h ⟨h'⟩
set_option maxRecDepth 100000 in
set_option maxHeartbeats 2000000 in
theorem g_One1 (s : Stp) (y : Ent) : Good Tryz.prog 62 [.val (.agg #[.int .u64 y.w.v.x, .int .u64 y.w.v.y, .int .u64 y.w.m.x, .int .u64 y.w.m.y, .int .i64 y.len, .int .i64 y.act]), .cptr (encD s)] (.val (.bool (decide (y.act ≠ s.e.act)))) := by
  refine Good.of_body (T := [(0, _), (1, _)]) Tryz.func62 rfl rfl rfl ?_
  intro K0 w0 hno
  by_cases h : y.act = s.e.act
  · repeat' (first | refine stpPlnA_3 ?_ | refine stp ?_ | (refine stq ?_ ?_ <;> intro _))
    refine ⟨by first | exact .inl rfl | exact .inr rfl, _, (.cons (.tmp 3 (A := .val _) rfl (fun _ h => by cases h)) .nil), ?_, rfl⟩
    simp [h, retsV]
  · repeat' (first | refine stpPlnA_3 ?_ | refine stp ?_ | (refine stq ?_ ?_ <;> intro _))
    refine ⟨by first | exact .inl rfl | exact .inr rfl, _, (.cons (.tmp 3 (A := .val _) rfl (fun _ h => by cases h)) .nil), ?_, rfl⟩
    simp [h, retsV]
theorem arm64_1 {p : Prop} (h : p := by first | exact fm0 | fail) : p := h
set_option maxRecDepth 100000 in
set_option maxHeartbeats 2000000 in
theorem g_One2 (y : Ent) : Good Tryz.prog 64 [.val (.agg #[.int .u64 y.w.v.x, .int .u64 y.w.v.y, .int .u64 y.w.m.x, .int .u64 y.w.m.y, .int .i64 y.len, .int .i64 y.act])] (.val (.bool true)) := by
  refine Good.of_body (T := [(0, _)]) Tryz.func64 rfl rfl rfl ?_
  intro K0 w0 hno
  repeat' (first | (refine LT.consT ?_; (first | refine T.box (e := 46) (cs := [.val _, .val _, .val _, .val _, .val _, .val _]) rfl rfl (by decide) rfl rfl ?_)) | (apply LT.cons1; exact arm64_1; (try decide)) | refine stp ?_ | (refine stq ?_ ?_ <;> intro _))
  refine ⟨by first | exact .inl rfl | exact .inr rfl, _, (.cons (.tmp 2 (A := .val _) rfl (fun _ h => by cases h)) .nil), ?_, rfl⟩
  rfl
theorem g_eachSet (l : List Slt) (s : Stp) (to : Slt) (hl : l.length ≤ 60000) : Good Tryz.prog 63 [.sl 7 (l.map encS), .val (.agg #[.int .u64 s.e.w.v.x, .int .u64 s.e.w.v.y, .int .u64 s.e.w.m.x, .int .u64 s.e.w.m.y, .int .i64 s.e.len, .int .i64 s.e.act]), .val (.agg #[.bool to.valid, .int .u64 to.e.w.v.x, .int .u64 to.e.w.v.y, .int .u64 to.e.w.m.x, .int .u64 to.e.w.m.y, .int .i64 to.e.len, .int .i64 to.e.act]), .clo 62 [encD s]] (.row 9 50 8 ((eachL l s.e to fun y => decide (y.act ≠ s.e.act)).map encX)) :=
  (g_each l s.e to (fun y => decide (y.act ≠ s.e.act)) hl).args rfl fun i A A' K c hA hA' h => by
    match i with
    | 0 => injection hA with hA; injection hA' with hA'; subst hA hA'; exact h
    | 1 => injection hA with hA; injection hA' with hA'; subst hA hA'; exact h
    | 2 => injection hA with hA; injection hA' with hA'; subst hA hA'; exact h
    | 3 =>
      injection hA with hA; injection hA' with hA'; subst hA hA'
      exact fnIs_clo Tryz.func62 rfl rfl (fun As res ⟨y, e1, e2⟩ => by subst e1 e2; exact g_One1 s y) K h
    | i + 4 => simp at hA
theorem g_eachDrop (l : List Slt) (x : Ent) (to : Slt) (hl : l.length ≤ 60000) : Good Tryz.prog 63 [.sl 7 (l.map encS), .val (.agg #[.int .u64 x.w.v.x, .int .u64 x.w.v.y, .int .u64 x.w.m.x, .int .u64 x.w.m.y, .int .i64 x.len, .int .i64 x.act]), .val (.agg #[.bool to.valid, .int .u64 to.e.w.v.x, .int .u64 to.e.w.v.y, .int .u64 to.e.w.m.x, .int .u64 to.e.w.m.y, .int .i64 to.e.len, .int .i64 to.e.act]), .val (.func (.func 64) #[] #[])] (.row 9 50 8 ((eachL l x to fun _ => true).map encX)) :=
  (g_each l x to (fun _ => true) hl).args rfl fun i A A' K c hA hA' h => by
    match i with
    | 0 => injection hA with hA; injection hA' with hA'; subst hA hA'; exact h
    | 1 => injection hA with hA; injection hA' with hA'; subst hA hA'; exact h
    | 2 => injection hA with hA; injection hA' with hA'; subst hA hA'; exact h
    | 3 =>
      injection hA with hA; injection hA' with hA'; subst hA hA'
      exact fnIs_val Tryz.func64 rfl rfl (fun As res ⟨y, e1, e2⟩ => by subst e1 e2; exact g_One2 y) K h
    | i + 4 => simp at hA
theorem arm31_1 {p : Prop} (h : p := by first | exact fm0 | exact fm53 | exact fm56 | exact OpH.fieldC (s := 82) (f := 1) (off := 1) rfl (by kernel_rfl) rfl | exact OpH.fieldB (s := 82) (f := 1) (off := 1) rfl (by kernel_rfl) rfl | exact fm63 | exact fm12 | exact fm54 | exact fm55 | exact OpH.fieldC (s := 82) (f := 0) (off := 0) rfl (by kernel_rfl) rfl | exact OpH.fieldB (s := 82) (f := 0) (off := 0) rfl (by kernel_rfl) rfl | exact fm50 | exact fm1 | exact fm15 | exact OpH.mkfn | exact OpH.mkclo1 rfl | exact OpH.mkclo2 rfl rfl | exact build_48_0_1 rfl rfl | exact fm10 | exact build_48_  | fail) : p := h
theorem stpPlnA_4 {G G' : Prop} (h' : G') (h : Hidd G' → G := by (first | (intro h; (first | (refine LT.consT ?_; (first | refine T.box (e := 82) (cs := [.val _, .val _, .val _, .val _, .val _, .val _, .val _]) rfl rfl (by decide) rfl rfl ?_)) | ((first | apply LT.cons1 | (apply LT.guard1; rfl; rfl; rfl; decide)); exact arm31_1; (try decide))); exact h.1) | fail)) : G := h ⟨h'⟩
set_option maxRecDepth 100000 in
set_option maxHeartbeats 4000000 in
theorem g_One (order : Int) (l : List Slt) (s : Stp) (hl : l.length ≤ 60000) : Good Tryz.prog 31 [.val (.int .i64 order), .sl 7 (l.map encS), .val (.agg #[.int .i64 s.kind, .int .u64 s.e.w.v.x, .int .u64 s.e.w.v.y, .int .u64 s.e.w.m.x, .int .u64 s.e.w.m.y, .int .i64 s.e.len, .int .i64 s.e.act])] (.tup [.sl 8 ((onePl order l s).1.map encX), .val (.int .i64 (onePl order l s).2)]) := by
  have gO := g_Order order
  have gR : Good Tryz.prog 61 [.val (.agg #[.int .u64 s.e.w.v.x, .int .u64 s.e.w.v.y, .int .u64 s.e.w.m.x, .int .u64 s.e.w.m.y, .int .i64 s.e.len, .int .i64 s.e.act])] (.val (.bool (eRight s.e))) := g_eRight _ _ _ _ _ _
  have gI := g_plnInsert order l s.e hl
  have gS := g_eachSet l s ⟨true, s.e⟩ hl
  have gD := g_eachDrop l s.e zeroS hl
  have hone : onePl order l s = onePl order l s := rfl
  conv at hone => rhs; unfold onePl
  have key : ∀ (r : List Wrt × Int) (ws : List Wrt) (n : Int), Good Tryz.prog 31 [.val (.int .i64 order), .sl 7 (l.map encS), .val (.agg #[.int .i64 s.kind, .int .u64 s.e.w.v.x, .int .u64 s.e.w.v.y, .int .u64 s.e.w.m.x, .int .u64 s.e.w.m.y, .int .i64 s.e.len, .int .i64 s.e.act])] (.tup [.sl 8 (ws.map encX), .val (.int .i64 n)]) → r = (ws, n) → Good Tryz.prog 31 [.val (.int .i64 order), .sl 7 (l.map encS), .val (.agg #[.int .i64 s.kind, .int .u64 s.e.w.v.x, .int .u64 s.e.w.v.y, .int .u64 s.e.w.m.x, .int .u64 s.e.w.m.y, .int .i64 s.e.len, .int .i64 s.e.act])] (.tup [.sl 8 (r.1.map encX), .val (.int .i64 r.2)]) := fun r ws n h e => by rw [e]; exact h
  generalize onePl order l s = r at hone ⊢
  cases ho : ordPl order with
  | false =>
    rw [if_pos (.inl ho)] at hone
    refine key _ _ _ ?_ hone
    rw [ho] at gO
    refine Good.of_body (T := [(0, _), (1, _), (2, _)]) Tryz.func31 rfl rfl rfl ?_
    intro K0 w0 hno
    repeat' (first | (refine CT.sub (S' := ⟨[(6, .sl 8 (([] : List Wrt).map encX)), (7, .val (.int .i64 1))], [], []⟩) ?_ (CT.ret ?_)) | ((first | apply LT.cons1 | (apply LT.guard1; rfl; rfl; rfl; decide)); (first | exact OpH.callF Tryz.func12 rfl rfl rfl gO rfl); (try decide)) | refine stpPlnA_4 ?_ | refine stp ?_ | (refine stq ?_ ?_ <;> intro _))
    · exact subT
    · refine ⟨by first | exact .inl rfl | exact .inr rfl, _, (.cons (.tmp 6 (A := .sl _ _) rfl (fun _ h => by cases h)) (.cons (.tmp 7 (A := .val _) rfl (fun _ h => by cases h)) .nil)), ?_, rfl⟩
      rfl
  | true =>
    rw [ho] at gO
    cases hr : eRight s.e with
    | false =>
      rw [if_pos (.inr hr)] at hone
      refine key _ _ _ ?_ hone
      rw [hr] at gR
      refine Good.of_body (T := [(0, _), (1, _), (2, _)]) Tryz.func31 rfl rfl rfl ?_
      intro K0 w0 hno
      repeat' (first | (refine CT.sub (S' := ⟨[(6, .sl 8 (([] : List Wrt).map encX)), (7, .val (.int .i64 1))], [], []⟩) ?_ (CT.ret ?_)) | ((first | apply LT.cons1 | (apply LT.guard1; rfl; rfl; rfl; decide)); (first | exact OpH.callF Tryz.func12 rfl rfl rfl gO rfl | exact OpH.callF Tryz.func61 rfl rfl rfl gR rfl); (try decide)) | refine stpPlnA_4 ?_ | refine stp ?_ | (refine stq ?_ ?_ <;> intro _))
      · exact subT
      · refine ⟨by first | exact .inl rfl | exact .inr rfl, _, (.cons (.tmp 6 (A := .sl _ _) rfl (fun _ h => by cases h)) (.cons (.tmp 7 (A := .val _) rfl (fun _ h => by cases h)) .nil)), ?_, rfl⟩
        rfl
    | true =>
      rw [if_neg (by rw [ho, hr]; decide)] at hone
      rw [hr] at gR
      by_cases k0 : s.kind = 0
      · rw [if_pos k0] at hone
        generalize insPl order l s.e = q at gI hone
        obtain ⟨ws, er⟩ := q
        refine key _ _ _ ?_ hone
        refine Good.of_body (T := [(0, _), (1, _), (2, _)]) Tryz.func31 rfl rfl rfl ?_
        intro K0 w0 hno
        repeat' (first | (refine CT.sub (S' := ⟨[(6, .sl 8 (ws.map encX)), (7, .val (.int .i64 er))], [], []⟩) ?_ (CT.ret ?_)) | ((first | apply LT.cons1 | (apply LT.guard1; rfl; rfl; rfl; decide)); (first | exact OpH.callF Tryz.func12 rfl rfl rfl gO rfl | exact OpH.callF Tryz.func61 rfl rfl rfl gR rfl | exact OpH.callF Tryz.func37 rfl rfl rfl gI rfl); (try decide)) | refine stpPlnA_4 ?_ | refine stp ?_ | (refine stq ?_ ?_ <;> intro _))
        · exact subT
        · refine ⟨by first | exact .inl rfl | exact .inr rfl, _, (.cons (.tmp 6 (A := .sl _ _) rfl (fun _ h => by cases h)) (.cons (.tmp 7 (A := .val _) rfl (fun _ h => by cases h)) .nil)), ?_, rfl⟩
          rfl
      · rw [if_neg k0] at hone
        by_cases k1 : s.kind = 1
        · rw [if_pos k1] at hone
          refine key _ _ _ ?_ hone
          generalize eachL l s.e ⟨true, s.e⟩ (fun y => decide (y.act ≠ s.e.act)) = ws at gS ⊢
          refine Good.of_body (T := [(0, _), (1, _), (2, _)]) Tryz.func31 rfl rfl rfl ?_
          intro K0 w0 hno
          repeat' (first | (refine LT.consT ?_; refine T.callRowP Tryz.func63 rfl rfl (.cons (.b (.a (AV.arg_of _))) (.cons (.b (.a (AV.arg_of _))) (.cons (.b (.a (AV.arg_of _))) (.cons (.b (.clo rfl)) .nil)))) gS (by decide) rfl ?_) | (refine CT.sub (S' := ⟨[(6, .sl 8 (ws.map encX)), (7, .val (.int .i64 0))], [], []⟩) ?_ (CT.ret ?_)) | ((first | apply LT.cons1 | (apply LT.guard1; rfl; rfl; rfl; decide)); (first | exact OpH.callF Tryz.func12 rfl rfl rfl gO rfl | exact OpH.callF Tryz.func61 rfl rfl rfl gR rfl); (try decide)) | refine stpPlnA_4 ?_ | refine stp ?_ | (refine stq ?_ ?_ <;> intro _))
          · exact subT
          · refine ⟨by first | exact .inl rfl | exact .inr rfl, _, (.cons (.tmp 6 (A := .sl _ _) rfl (fun _ h => by cases h)) (.cons (.tmp 7 (A := .val _) rfl (fun _ h => by cases h)) .nil)), ?_, rfl⟩
            rfl
        · rw [if_neg k1] at hone
          by_cases k2 : s.kind = 2
          · rw [if_pos k2] at hone
            refine key _ _ _ ?_ hone
            generalize eachL l s.e zeroS (fun _ => true) = ws at gD ⊢
            unfold zeroS at gD
            refine Good.of_body (T := [(0, _), (1, _), (2, _)]) Tryz.func31 rfl rfl rfl ?_
            intro K0 w0 hno
            repeat' (first | (refine LT.consT ?_; refine T.callRow Tryz.func63 rfl rfl rfl gD (by decide) rfl ?_) | (refine CT.sub (S' := ⟨[(6, .sl 8 (ws.map encX)), (7, .val (.int .i64 0))], [], []⟩) ?_ (CT.ret ?_)) | ((first | apply LT.cons1 | (apply LT.guard1; rfl; rfl; rfl; decide)); (first | exact OpH.callF Tryz.func12 rfl rfl rfl gO rfl | exact OpH.callF Tryz.func61 rfl rfl rfl gR rfl); (try decide)) | refine stpPlnA_4 ?_ | refine stp ?_ | (refine stq ?_ ?_ <;> intro _))
            · exact subT
            · refine ⟨by first | exact .inl rfl | exact .inr rfl, _, (.cons (.tmp 6 (A := .sl _ _) rfl (fun _ h => by cases h)) (.cons (.tmp 7 (A := .val _) rfl (fun _ h => by cases h)) .nil)), ?_, rfl⟩
              rfl
          · rw [if_neg k2] at hone
            refine key _ _ _ ?_ hone
            refine Good.of_body (T := [(0, _), (1, _), (2, _)]) Tryz.func31 rfl rfl rfl ?_
            intro K0 w0 hno
            repeat' (first | (refine CT.sub (S' := ⟨[(6, .sl 8 (([] : List Wrt).map encX)), (7, .val (.int .i64 1))], [], []⟩) ?_ (CT.ret ?_)) | ((first | apply LT.cons1 | (apply LT.guard1; rfl; rfl; rfl; decide)); (first | exact OpH.callF Tryz.func12 rfl rfl rfl gO rfl | exact OpH.callF Tryz.func61 rfl rfl rfl gR rfl); (try decide)) | refine stpPlnA_4 ?_ | refine stp ?_ | (refine stq ?_ ?_ <;> intro _))
            · exact subT
            · refine ⟨by first | exact .inl rfl | exact .inr rfl, _, (.cons (.tmp 6 (A := .sl _ _) rfl (fun _ h => by cases h)) (.cons (.tmp 7 (A := .val _) rfl (fun _ h => by cases h)) .nil)), ?_, rfl⟩
              rfl
end Go.Proofs.YtjmnnkhdadoehaaGreat
