/- Slots in the order of chains: places, gaps, ways; in plain Lean. -/
import Derived.Test.YtjmnnkhdadoehaaGreatZWalkR5
import Derived.Test.YtjmnnkhdadoehaaGreatZWalkM
import Derived.Test.YtjmnnkhdadoehaaGreatZAbs8
import Derived.Test.YtjmnnkhdadoehaaGreatZAppB
import Derived.Test.YtjmnnkhdadoehaaGreatZGoods
namespace Go.Proofs.YtjmnnkhdadoehaaGreat
set_option linter.unusedSimpArgs false
set_option linter.unusedVariables false
open Go
def firstF (p : Nat → Bool) : Nat → Nat → Nat
  | 0, k => k
  | f + 1, k => if p k = true then k else firstF p f (k + 1)
theorem firstF_spec (p : Nat → Bool) : ∀ f k, k ≤ firstF p f k ∧ firstF p f k ≤ k + f ∧ (∀ j, k ≤ j → j < firstF p f k → p j = false) ∧ (firstF p f k < k + f → p (firstF p f k) = true)
  | 0, k => by simp [firstF]; intro j h1 h2; omega
  | f + 1, k => by
    simp only [firstF]
    by_cases h : p k = true
    · rw [if_pos h]
      exact ⟨Nat.le_refl _, by omega, fun j h1 h2 => by omega, fun _ => h⟩
    · rw [if_neg h]
      obtain ⟨h1, h2, h3, h4⟩ := firstF_spec p f (k + 1)
      refine ⟨by omega, by omega, fun j h5 h6 => ?_, fun h5 => h4 (by omega)⟩
      by_cases e : j = k
      · subst e; simpa using h
      · exact h3 j (by omega) h6
theorem firstF_uniq {p : Nat → Bool} {f k r : Nat} (h1 : k ≤ r) (h2 : r ≤ k + f) (h3 : ∀ j, k ≤ j → j < r → p j = false) (h4 : r < k + f → p r = true) : firstF p f k = r := by
  obtain ⟨q1, q2, q3, q4⟩ := firstF_spec p f k
  rcases Nat.lt_trichotomy (firstF p f k) r with h | h | h
  · have := h3 _ q1 h
    rw [q4 (by omega)] at this; cases this
  · exact h
  · have := q3 r h1 h
    rw [h4 (by omega)] at this; cases this
theorem lastTo_spec (p : Nat → Bool) : ∀ k, (∀ j : Nat, lastTo p k < j → j < k → p j = false) ∧ (0 ≤ lastTo p k → p (lastTo p k).toNat = true)
  | 0 => ⟨fun j _ h => by omega, fun h => by simp [lastTo] at h⟩
  | k + 1 => by
    simp only [lastTo]
    by_cases h : p k = true
    · rw [if_pos h]
      exact ⟨fun j h1 h2 => by omega, fun _ => by simpa using h⟩
    · rw [if_neg h]
      obtain ⟨h1, h2⟩ := lastTo_spec p k
      refine ⟨fun j h3 h4 => ?_, h2⟩
      by_cases e : j = k
      · subst e; simpa using h
      · exact h1 j h3 (by omega)
theorem lastTo_uniq {p : Nat → Bool} {k : Nat} {r : Int} (h0 : -1 ≤ r) (h1 : r < k) (h2 : ∀ j : Nat, r < j → j < k → p j = false) (h3 : 0 ≤ r → p r.toNat = true) : lastTo p k = r := by
  obtain ⟨q0, q1⟩ := lastTo_bound p k
  obtain ⟨q2, q3⟩ := lastTo_spec p k
  by_cases h : lastTo p k < r
  · have := q2 r.toNat (by omega) (by omega)
    rw [h3 (by omega)] at this; cases this
  · by_cases h' : r < lastTo p k
    · have := h2 (lastTo p k).toNat (by omega) (by omega)
      rw [q3 (by omega)] at this; cases this
    · omega
def loP (l : List Slt) (x : Ent) (k : Nat) : Bool := (nth l k).valid && eAbove x (nth l k).e
def hiP (l : List Slt) (x : Ent) (k : Nat) : Bool := (nth l k).valid && eAbove (nth l k).e x
def emP (l : List Slt) (k : Nat) : Bool := !(nth l k).valid
def loF (l : List Slt) (x : Ent) (k : Nat) : Nat := firstF (loP l x) (l.length - k) k
def hiF (l : List Slt) (x : Ent) (n : Nat) : Int := lastTo (hiP l x) n
theorem loF_spec (l : List Slt) (x : Ent) {k : Nat} (hk : k ≤ l.length) : k ≤ loF l x k ∧ loF l x k ≤ l.length ∧ (∀ j, k ≤ j → j < loF l x k → loP l x j = false) ∧ (loF l x k < l.length → loP l x (loF l x k) = true) := by
  obtain ⟨h1, h2, h3, h4⟩ := firstF_spec (loP l x) (l.length - k) k
  exact ⟨h1, by unfold loF; omega, h3, fun h => h4 (by unfold loF at h; omega)⟩
def gapFrom (l : List Slt) (x : Ent) : Int := hiF l x l.length + 1
def gapTo (l : List Slt) (x : Ent) : Nat := loF l x 0
theorem gapFrom_bound (l : List Slt) (x : Ent) : 0 ≤ gapFrom l x ∧ gapFrom l x ≤ l.length := by
  have := lastTo_bound (hiP l x) l.length
  unfold gapFrom hiF
  omega
theorem gapTo_bound (l : List Slt) (x : Ent) : gapTo l x ≤ l.length := (loF_spec l x (Nat.zero_le _)).2.1
def entsS (l : List Slt) : List Ent := (l.filter Slt.valid).map Slt.e
def OrdS (l : List Slt) : Prop := l.Pairwise fun s t => s.valid = true → t.valid = true → eAbove t.e s.e = false
theorem ordered_pw (xs : List Ent) : ordered xs = true ↔ xs.Pairwise fun x y => eAbove y x = false := by
  unfold ordered
  rw [ordTo_iff xs _ (Nat.le_refl _), List.pairwise_iff_getElem]
  constructor
  · intro h i j hi hj hij
    have := h j hj i hij
    rwa [nth_at _ hj, nth_at _ hi] at this
  · intro h k hk i hi
    rw [nth_at _ hk, nth_at _ (by omega : i < xs.length)]
    exact h i k (by omega) hk hi
theorem ordS_iff (l : List Slt) : ordered (entsS l) = true ↔ OrdS l := by
  rw [ordered_pw]
  unfold entsS OrdS
  rw [List.pairwise_map, List.pairwise_filter]
theorem OrdS.get {l : List Slt} (h : OrdS l) {i j : Nat} (hij : i < j) (hj : j < l.length) (hi : (nth l i).valid = true) (hv : (nth l j).valid = true) : eAbove (nth l j).e (nth l i).e = false := by
  have hi' : i < l.length := by omega
  rw [nth_at _ hj, nth_at _ hi'] at *
  exact (List.pairwise_iff_getElem.1 h) i j hi' hj hij hi hv
theorem OrdS.of_get {l : List Slt} (h : ∀ i j, i < j → j < l.length → (nth l i).valid = true → (nth l j).valid = true → eAbove (nth l j).e (nth l i).e = false) : OrdS l := by
  refine List.pairwise_iff_getElem.2 fun i j hi hj hij h1 h2 => ?_
  have := h i j hij hj (by rw [nth_at _ hi]; exact h1) (by rw [nth_at _ hj]; exact h2)
  rwa [nth_at _ hi, nth_at _ hj] at this
theorem eAbove_irr (x : Ent) : eAbove x x = false := by
  unfold eAbove
  rw [decide_eq_false (by omega)]; rfl
/-! ### Ways -/
def wayG (nx : Int → Int × Int) (n : Nat) : Nat → Int → List Int
  | 0, _ => []
  | f + 1, at_ => if 0 ≤ at_ ∧ at_ < n then (if 0 ≤ (nx at_).2 then [at_, (nx at_).2] else match wayG nx n f (nx at_).1 with | [] => [] | b :: w => at_ :: b :: w) else []
def behind (pre w : List Int) : List Int := match w with | [] => [] | b :: w => pre ++ b :: w
def emFirst (l : List Slt) (k m : Nat) : Int := if firstF (emP l) (m - k) k < m then (firstF (emP l) (m - k) k : Int) else -1
def emLast (l : List Slt) (k m : Nat) : Int := if (k : Int) ≤ lastTo (emP l) m then lastTo (emP l) m else -1
def nextB (l : List Slt) (at_ : Int) : Int × Int := ((loF l (nth l at_.toNat).e (at_.toNat + 1) : Int), emFirst l (at_.toNat + 1) (loF l (nth l at_.toNat).e (at_.toNat + 1)))
def nextA (l : List Slt) (at_ : Int) : Int × Int := (hiF l (nth l at_.toNat).e at_.toNat, emLast l (hiF l (nth l at_.toNat).e at_.toNat + 1).toNat at_.toNat)
def wayB (l : List Slt) (to : Int) : List Int := wayG (nextB l) l.length (l.length + 1) to
def wayA (l : List Slt) (from_ : Int) : List Int := wayG (nextA l) l.length (l.length + 1) from_
def wr1 (l : List Slt) (w : List Int) (j : Nat) : Wrt := ⟨nth w (w.length - 1 - j), nth l (nth w (w.length - 2 - j)).toNat⟩
def writesTo (l : List Slt) (w : List Int) (j : Nat) : List Wrt := (List.range j).map (wr1 l w)
theorem writesTo_step (l : List Slt) (w : List Int) (j : Nat) : writesTo l w (j + 1) = writesTo l w j ++ [wr1 l w j] := by
  unfold writesTo
  rw [List.range_succ, List.map_append]; rfl
theorem writesTo_length (l : List Slt) (w : List Int) (j : Nat) : (writesTo l w j).length = j := by simp [writesTo]
def writesOf (l : List Slt) (x : Ent) (w : List Int) : List Wrt := writesTo l w (w.length - 1) ++ [⟨nth w 0, ⟨true, x⟩⟩]
theorem writesOf_length (l : List Slt) (x : Ent) {w : List Int} (h : 0 < w.length) : (writesOf l x w).length = w.length := by
  unfold writesOf
  rw [List.length_append, writesTo_length, List.length_singleton]; omega
def insC (l : List Slt) (x : Ent) : List Wrt × Int :=
  if eRight x = false then ([], 1) else
  if ordered (entsS l) = false ∨ (gapTo l x : Int) < gapFrom l x then ([], 7) else
  if 0 ≤ emFirst l (gapFrom l x).toNat (gapTo l x) then (writesOf l x [emFirst l (gapFrom l x).toNat (gapTo l x)], 0) else
  if (wayB l (gapTo l x)).length + (wayA l (gapFrom l x - 1)).length = 0 then ([], 3) else
  if (wayB l (gapTo l x)).length = 0 ∨ 0 < (wayA l (gapFrom l x - 1)).length ∧ (wayA l (gapFrom l x - 1)).length < (wayB l (gapTo l x)).length then (writesOf l x (wayA l (gapFrom l x - 1)), 0) else (writesOf l x (wayB l (gapTo l x)), 0)
end Go.Proofs.YtjmnnkhdadoehaaGreat

/- -/

/- Abstract walks: closures over slices; calls that are handed closures and give rows. -/
namespace Go.Proofs.YtjmnnkhdadoehaaGreat
set_option linter.unusedSimpArgs false
set_option linter.unusedVariables false
open Go Go.RowKit Go.Shelf
def PSl (k : Nat) (xs : Cells) (K : Know) (c : Value) : Prop := ∃ (b o : Nat) (u : Value), c = Value.pointer (some ⟨b, o, none⟩) ∧ K b o = some u ∧ Rep1 K Nm.nil (.sl k xs) u
theorem PSl.mono {k : Nat} {xs : Cells} {K K' : Know} {c : Value} (h : PSl k xs K c) (hK : K.le K') : PSl k xs K' c := by
  obtain ⟨b, o, u, h1, h2, h3⟩ := h
  exact ⟨b, o, u, h1, hK _ _ _ h2, h3.mono hK⟩
def FnIs (P : Program) (spec : List AV → AV → Prop) (K : Know) (c : Value) : Prop :=
  ∃ (f : FuncId) (fn : Func) (b : Code) (ps : List Value) (caps : List AV), c = .func (.func f) #[] ps.toArray ∧ P.funcs[f]? = some fn ∧ (fn.name == "runtime.NumGoroutine") = false ∧ fn.body = some b ∧ ps.length = caps.length ∧
    (∀ (i : Nat) A p, caps[i]? = some A → ps[i]? = some p → Rep1 K Nm.nil A p) ∧ ∀ As res, spec As res → Good P f (As ++ caps) res
theorem FnIs.mono {P : Program} {spec : List AV → AV → Prop} {K K' : Know} {c : Value} (h : FnIs P spec K c) (hK : K.le K') : FnIs P spec K' c := by
  obtain ⟨f, fn, b, ps, caps, h1, h2, h3, h4, h5, h6, h7⟩ := h
  exact ⟨f, fn, b, ps, caps, h1, h2, h3, h4, h5, fun i A p a b => (h6 i A p a b).mono hK, h7⟩
section
variable {P : Program} {N : Nat} {K0 : Know} {w0 : Bas} {S S' : St} {K K' : Know} {n : Nm} {a : Act} {w w' : World} {Q : St → Prop}
variable {d dO : Option Nat} {ty : TypeId} {pos : String} {aft : Array Edge} {g : Option (Nat × Bool)} {t e : TypeId} {x y : Operand} {tm : List (Nat × AV)} {bs : List (Nat × List AV)} {ar : List (Nat × Arr)} {dn : Nat}
theorem OpH.loadP {k : Nat} {xs : Cells} (h1 : S.opv x = .pr (PSl k xs)) (hk : oneSize P t = true) : OpH P N K0 w0 ⟨d, .load t x, ty, pos, aft, g⟩ S (.sl k xs) := by
  refine OpH.ret (fun S' K n a w hs _ hop => ?_) (no_row (by intros; intro h; cases h) (by intros; intro h; cases h))
  have e1 := hs.opv x
  rw [hop x (by simp [Op.operands]), h1] at e1
  obtain ⟨b, o, u, e2, h2, h3⟩ := e1 K (Know.le_refl K)
  refine ⟨u, ?_, h3⟩
  simp only [execOp]
  rw [e2, Sem.run_bind, run_load_one hk (v := u) (hs.ok _ _ _ h2)]
  rfl
theorem OpH.callP {spec : List AV → AV → Prop} {args : Array Operand} {ats : Array TypeId} {As : List AV} {res : AV} (h0 : S.opv x = .pr (FnIs P spec)) (hargs : (args.toList.map fun x => (S.opv x).arg) = As) (hsp : spec As res) (hp : res.plain = true) :
    OpH P N K0 w0 ⟨d, .call { callee := .value x, args := args, argTypes := ats }, ty, pos, aft, g⟩ S res := by
  subst hargs
  intro S' K n a w hs hB hop
  have hx := hs.opv x
  rw [hop x (by simp [Op.operands, Call.operands]), h0] at hx
  obtain ⟨f, fn, b, ps, caps, e1, hf, hname, hb, e2, e3, hg⟩ := hx K (Know.le_refl K)
  have hargsOf : ∀ y ∈ args.toList, S'.opv y = S.opv y := fun y hy => hop y (by simp only [Op.operands, Call.operands]; simp; right; simpa using hy)
  have key : ∀ {R : Ending → World → Prop}, Calls P f ((args.toList.map a.eval) ++ ps).toArray w R → Calls P f ((args.toList.map a.eval).toArray ++ ps.toArray) w R := fun h => by simpa using h
  refine upon_enter_calls (call_runD hf hname hb e1 w) (key (hg _ _ hsp K w (args.toList.map a.eval ++ ps) hs.ok (by simp [e2]) fun i B cv hBi hci => ?_)) ?_
  · by_cases hi : i < args.toList.length
    · rw [List.getElem?_append_left (by simpa using hi), List.getElem?_map, Option.map_eq_some_iff] at hBi
      rw [List.getElem?_append_left (by simpa using hi), List.getElem?_map, Option.map_eq_some_iff] at hci
      obtain ⟨y, hy, rfl⟩ := hBi
      obtain ⟨y', hy', rfl⟩ := hci
      rw [hy] at hy'
      injection hy' with hy'
      subst hy'
      have h1 := hs.opv y
      rw [hargsOf y (List.mem_of_getElem? hy)] at h1
      exact (AV.arg_of (S.opv y)).rep h1
    · rw [List.getElem?_append_right (by simpa using hi)] at hBi
      rw [List.getElem?_append_right (by simpa using hi)] at hci
      exact e3 _ B cv (by simpa using hBi) (by simpa using hci)
  · rintro e w' ⟨c, K', rfl, h1, h2, h3, h4, ρ, h5, _⟩
    exact ⟨c, rfl, c, K', rfl, h1, h2, h3, h4, h5.plain hp, fun r e k xs hr => absurd hr (AV.plain_row hp r e k xs)⟩
inductive ArgP (P : Program) (S : St) : AV → AV → Prop
  | b {A A'} (h : ArgB S A A') : ArgP P S A A'
  | fn {A f fn b bx k xs} (spec : List AV → AV → Prop) (hA : A = .cloB f [(bx, 0)]) (hB : getB S.boxes bx = some [.sl k xs]) (hf : P.funcs[f]? = some fn) (hname : (fn.name == "runtime.NumGoroutine") = false) (hb : fn.body = some b)
      (hg : ∀ As res, spec As res → Good P f (As ++ [.pr (PSl k xs)]) res) : ArgP P S A (.pr (FnIs P spec))
def ArgsP (P : Program) (S : St) : List Operand → List AV → Prop
  | [], [] => True
  | x :: xs, A :: As => ArgP P S (S.opv x) A ∧ ArgsP P S xs As
  | _, _ => False
theorem ArgsP.get {S : St} : ∀ {xs : List Operand} {As : List AV}, ArgsP P S xs As → xs.length = As.length ∧ ∀ (i : Nat) A x, As[i]? = some A → xs[i]? = some x → ArgP P S (S.opv x) A
  | [], [], _ => ⟨rfl, fun i A x h => by simp at h⟩
  | [], _ :: _, h => h.elim
  | _ :: _, [], h => h.elim
  | x :: xs, A :: As, h => by
    obtain ⟨h1, h2⟩ := ArgsP.get h.2
    refine ⟨by simp [h1], fun i B y hB hy => ?_⟩
    cases i with
    | zero => simp at hB hy; subst hB hy; exact h.1
    | succ i => exact h2 i B y (by simpa using hB) (by simpa using hy)
theorem ArgP.rep (hs : Sim N K0 w0 S K n a w) {A A' : AV} {c : Value} (h : ArgP P S A A') (hr : Rep K n A c) : Rep1 (K.boxed n S w) Nm.nil A' c := by
  cases h with
  | b h => exact h.rep hs hr
  | fn spec hA hB hf hname hb hg =>
    subst hA
    rename_i f fn b bx k xs
    obtain ⟨ps, e, h1, h2⟩ := hr
    obtain ⟨p, rfl⟩ : ∃ p, ps = [p] := by
      cases ps with
      | nil => simp at h1
      | cons p ps => cases ps with
        | nil => exact ⟨p, rfl⟩
        | cons q ps => simp at h1
    obtain ⟨b', hβ, rfl⟩ := h2 0 p bx 0 rfl rfl
    have hm := getB_mem hB
    obtain ⟨b2, arr, ty2, q1, q2, q3, q4, q5, q6⟩ := hs.box bx _ hm
    rw [hβ] at q1
    injection q1 with q1
    subst q1
    have h7 := q5 0 _ rfl
    have hlt : 0 < arr.size := by rw [q4]; simp
    have hk : K.boxed n S w b' 0 = some (arr.getD 0 undef) := by
      unfold Know.boxed
      rw [q6]
      simp only
      rw [if_pos ⟨bx, _, hm, hβ⟩]
      simp only [World.cell?, q3]
      simp [Array.getD_eq_getD_getElem?, Array.getElem?_eq_getElem hlt]
    have hP : PSl k xs (K.boxed n S w) (.pointer (some ⟨b', 0, none⟩)) := ⟨b', 0, _, rfl, hk, (show Rep1 K Nm.nil (.sl k xs) _ from h7).mono Know.boxed_le⟩
    have hF : FnIs P spec (K.boxed n S w) c := ⟨f, fn, b, [.pointer (some ⟨b', 0, none⟩)], [.pr (PSl k xs)], e, hf, hname, hb, rfl, fun i A p hA hp => by
      cases i with
      | zero =>
        simp at hA hp
        subst hA hp
        exact fun K' hK' => hP.mono hK'
      | succ i => simp at hA, hg⟩
    exact fun K' hK' => hF.mono hK'
theorem ArgP.at {S S' : St} (hB : S'.boxes = S.boxes) {B A : AV} (h : ArgP P S B A) : ArgP P S' B A := by
  cases h with
  | b h => exact .b (h.at hB)
  | fn spec hA hB' hf hname hb hg => exact .fn spec hA (by rw [hB]; exact hB') hf hname hb hg
noncomputable def Know.since (K K' : Know) (m : Nat) : Know := fun b o => if m ≤ b then K' b o else K b o
theorem T.callRowP {f : FuncId} {fn : Func} {c : Code} {args : Array Operand} {ats : Array TypeId} {As : List AV} {r k : Nat} {xs : Cells} (hf : P.funcs[f]? = some fn) (hname : (fn.name == "runtime.NumGoroutine") = false) (hb : fn.body = some c)
    (hargs : ArgsP P ⟨tm, bs, ar⟩ args.toList As) (hg : Good P f As (.row r e k xs)) (hd : dn < N) (hfr : St.free ⟨tm, bs, ar⟩ dn = true) (hq : Q ⟨(dn, .row dn e k xs) :: tm, bs, ar⟩) : OpT P N K0 w0 ⟨some dn, .call { callee := .value (.func f), args := args, argTypes := ats }, ty, pos, aft, g⟩ ⟨tm, bs, ar⟩ Q := by
  intro K n a w hs
  obtain ⟨hl, ha⟩ := hargs.get
  refine upon_enter_calls (call_run hf hname hb a w) (hg (K.boxed n ⟨tm, bs, ar⟩ w) w (args.toList.map a.eval) (Know.boxed_ok hs.ok) (by simp [hl]) fun i A c hA hc => ?_) ?_
  · rw [List.getElem?_map, Option.map_eq_some_iff] at hc
    obtain ⟨x, hx, rfl⟩ := hc
    exact (ha i A x hA hx).rep hs (hs.opv x)
  · rintro e' w' ⟨c, K', rfl, h1, h2, h3, h4, ρ, ⟨h5, h6⟩, h7, _⟩
    obtain ⟨h8, h9⟩ := h7 r e k xs (.inl rfl)
    subst h5
    have hbase : ∀ g, (ρ r).ownBlock = some g → w.heap.size ≤ g := fun g hg => (own_block_lt h8 hg).1
    have kle : K.le (K.since K' w.heap.size) := fun b o v hv => by
      unfold Know.since
      rw [if_neg (by have := Know.lt hs.ok hv; omega)]; exact hv
    have kok : (K.since K' w.heap.size).ok w' := fun b o v hv => by
      unfold Know.since at hv
      split at hv
      · exact h3 b o v hv
      · exact (Know.below hs.ok h1) b o v hv
    have knew : ∀ b o u, K.since K' w.heap.size b o = some u → b < w.heap.size → K b o = some u := fun b o u hu hlt => by
      unfold Know.since at hu
      rwa [if_neg (by omega)] at hu
    have hs' := hs.grow h1 kle kok knew
    have hsl : Slice (K.since K' w.heap.size) k xs (ρ r) := by
      obtain ⟨A, cap, e1, e2, e3, e4⟩ := h6
      refine ⟨A, cap, e1, e2, e3, e4.1, fun i x hx => ?_⟩
      obtain ⟨q1, q2, b, off, q3, q4⟩ := e4.2 i x hx
      refine ⟨q1, q2, b, off, q3, fun j u hu => ?_⟩
      obtain ⟨A2, cap2, p1, _, _, _, p5⟩ := own_val h8
      have e1' : ρ r = .slice A xs.length cap := e1
      rw [p1] at e1'
      injection e1' with e1' _ _
      obtain ⟨g, hg1, hg2⟩ := p5 ⟨b, off, none⟩ (by rw [e1']; exact q3)
      injection hg1 with hg1 _
      unfold Know.since
      rw [if_pos (by rw [hg1]; exact hbase g hg2)]
      exact q4 j u hu
    refine ⟨ρ r, rfl, K.since K' w.heap.size, _, _, hq, hs'.putRow hd hfr ⟨h8.1, ?_⟩ (fun g hg => ⟨fun o u hu => ?_, fun b cs hbx he => ?_, fun r' e' k' xs' hr' he => ?_, fun d' A hd' he => ?_⟩) hsl⟩
    · rcases h8.2 with h8 | ⟨g, cap, cur, q1, q2, q3⟩
      · exact .inl h8
      · exact .inr ⟨g, cap, cur, q1, Nat.le_trans hs.base q2, q3⟩
    · unfold Know.since at hu
      rw [if_pos (hbase g hg)] at hu
      exact h9 g hg o u hu
    · obtain ⟨b', arr, ty', q1, _, q3, _⟩ := hs.box b cs hbx
      rw [he] at q1
      injection q1 with q1
      subst q1
      have hlt := (Array.getElem?_eq_some_iff.1 q3).1
      have := hbase _ hg
      omega
    · have := (own_block_lt (hs.row r' e' k' xs' hr').1 he).2
      have := hbase _ hg
      omega
    · have := (own_block_lt (hs.arr d' A hd').1 he).2
      have := hbase _ hg
      omega
end
end Go.Proofs.YtjmnnkhdadoehaaGreat
