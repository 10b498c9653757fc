/- What ref04.Merge does. -/
import Derived.Test.YtjmnnkhdadoehaaGreatYGoods
import Derived.Test.YtjmnnkhdadoehaaGreatYAbs8
import Derived.Test.YtjmnnkhdadoehaaGreatYWalkW
import Derived.Test.YtjmnnkhdadoehaaGreatYWalkR5
import Derived.Test.YtjmnnkhdadoehaaGreatYAppB
namespace Go.Proofs.YtjmnnkhdadoehaaGreat
set_option linter.unusedSimpArgs false
set_option linter.unusedVariables false
open Go Go.RowKit Go.Shelf
theorem Good.valsRow {P : Program} {f : FuncId} {β : Type} {enc' : β → List Value} {k' e : Nat} {ys : List β} (hk : ∀ y, (enc' y).length = k') (h1 : ∀ y, ∀ u ∈ enc' y, u.oneCell' = true) {args : List Value} {As : List AV} (hA : As = args.map AV.val)
    (h : ∀ w, Calls P f args.toArray w fun e' w' => ∃ v, e' = .returned v ∧ w'.ownsRow w.heap.size e k' v ys.length (ys.flatMap enc') ∧ Below w.heap.size w w') : Good P f As (.row 0 e k' (ys.map enc')) := by
  subst hA
  intro K w cargs hok hlen hrep
  have e1 : cargs = args := by
    apply List.ext_getElem?
    intro i
    by_cases hi : i < args.length
    · have hi' : i < cargs.length := by simp at hlen; omega
      have := hrep i (.val args[i]) cargs[i] (by simp [List.getElem?_eq_getElem hi]) (by simp [List.getElem?_eq_getElem hi'])
      rw [List.getElem?_eq_getElem hi, List.getElem?_eq_getElem hi']
      exact congrArg some this
    · have hlen' : cargs.length = args.length := by simpa using hlen
      rw [List.getElem?_eq_none (by omega), List.getElem?_eq_none (by omega)]
  subst e1
  refine (h w).mono ?_
  rintro e w' ⟨v, rfl, hown, hb⟩
  obtain ⟨K', p1, p2, p3, p4⟩ := own_res (xs := ys.map enc') hok hb (by rw [List.length_map, ← List.flatMap_def]; exact hown) (fun x hx => by obtain ⟨y, _, rfl⟩ := List.mem_map.1 hx; exact hk y) (List.all_eq_true.2 fun x hx => by obtain ⟨y, _, rfl⟩ := List.mem_map.1 hx; exact List.all_eq_true.2 (h1 y)) 0
  exact ⟨v, K', rfl, hb, p1, p2, p3, p4⟩
def bitsL (f : Nat → Bool) : List Bool := (List.range 128).map f
theorem bitsL_len (f : Nat → Bool) : (bitsL f).length = 128 := by simp [bitsL]
theorem bitsL_get (f : Nat → Bool) {k : Nat} (hk : k < 128) (h : k < (bitsL f).length) : (bitsL f)[k] = f k := by simp [bitsL]
def lastTo (p : Nat → Bool) : Nat → Int
  | 0 => -1
  | k + 1 => if p k = true then (k : Int) else lastTo p k
theorem lastTo_bound (p : Nat → Bool) : ∀ k, -1 ≤ lastTo p k ∧ lastTo p k < k
  | 0 => by simp [lastTo]
  | k + 1 => by
    have := lastTo_bound p k
    simp only [lastTo]
    split <;> omega
theorem lastTo_one {p : Nat → Bool} : ∀ n, cntTo p n = 1 → ∃ k, k < n ∧ lastTo p n = (k : Int) ∧ p k = true ∧ ∀ i, i < n → i ≠ k → p i = false
  | 0, h => by simp [cntTo] at h
  | n + 1, h => by
    simp only [cntTo] at h
    cases hp : p n with
    | true =>
      rw [hp] at h
      have := (cntTo_zero n).1 (by simpa using h)
      exact ⟨n, Nat.lt_succ_self _, by simp [lastTo, hp], hp, fun i hi hne => this i (by omega)⟩
    | false =>
      rw [hp] at h
      obtain ⟨k, h1, h2, h3, h4⟩ := lastTo_one n (by simpa using h)
      refine ⟨k, by omega, by simp [lastTo, hp, h2], h3, fun i hi hne => ?_⟩
      by_cases e : i = n
      · subst e; exact hp
      · exact h4 i (by omega) hne
theorem lenB (x : Bool) : (encB x).length = 1 := rfl
theorem oneB (x : Bool) : ∀ u ∈ encB x, u.oneCell' = true := by
  intro u hu
  simp only [encB, List.mem_singleton] at hu
  subst hu; rfl
theorem flatB : ∀ l : List Bool, l.flatMap encB = l.map Value.bool
  | [] => rfl
  | x :: l => by rw [List.flatMap_cons, flatB l]; rfl
theorem g_Bits (a0 a1 : Int) (ha : A2.ok ⟨a0, a1⟩) : Good Tryz.prog 121 [.val (.agg #[.int .u64 a0, .int .u64 a1])] (.row 0 4 1 ((bitsL (abit ⟨a0, a1⟩)).map encB)) :=
  Good.valsRow (args := [.agg #[.int .u64 a0, .int .u64 a1]]) lenB oneB rfl fun w => (c_Bits a0 a1 ha w).mono fun e w' ⟨b, h1, h2, ⟨c, h3, h4, h5⟩, h6⟩ => by
    refine ⟨_, h1, ⟨by rw [flatB, List.length_map, bitsL_len], .inr ⟨b, 128, c, by rw [bitsL_len], h2, h3, by rw [bitsL_len]; exact Nat.le_refl _, by unfold maxLen; omega, by omega, ?_⟩⟩, h6⟩
    rw [bitsL_len, List.take_of_length_le (by simp; omega), flatB]
    apply List.ext_getElem?
    intro i
    by_cases hi : i < 128
    · rw [Array.getElem?_toList, h5 i hi]
      simp [bitsL, hi]
    · rw [List.getElem?_eq_none (by simp; omega), List.getElem?_eq_none (by simp [bitsL]; omega)]
/-! ### ref04.Merge -/
def mDif (x y : W2) (i : Nat) : Bool := abit x.m i && (abit x.v i != abit y.v i)
def rMergeIs (x y : W2) : Bool := decide (x.m = y.m) && decide (cntTo (mDif x y) 128 = 1)
attribute [local irreducible] OpH OpT LT CT HT Good
end Go.Proofs.YtjmnnkhdadoehaaGreat

/- Slots in the order of chains: places, gaps, ways; in plain Lean. -/
namespace Go.Proofs.YtjmnnkhdadoehaaGreat
set_option linter.unusedSimpArgs false
set_option linter.unusedVariables false
open Go
def firstF (p : Nat → Bool) : Nat → Nat → Nat
  | 0, k => k
  | f + 1, k => if p k = true then k else firstF p f (k + 1)
theorem firstF_spec (p : Nat → Bool) : ∀ f k, k ≤ firstF p f k ∧ firstF p f k ≤ k + f ∧ (∀ j, k ≤ j → j < firstF p f k → p j = false) ∧ (firstF p f k < k + f → p (firstF p f k) = true)
  | 0, k => by simp [firstF]; intro j h1 h2; omega
  | f + 1, k => by
    simp only [firstF]
    by_cases h : p k = true
    · rw [if_pos h]
      exact ⟨Nat.le_refl _, by omega, fun j h1 h2 => by omega, fun _ => h⟩
    · rw [if_neg h]
      obtain ⟨h1, h2, h3, h4⟩ := firstF_spec p f (k + 1)
      refine ⟨by omega, by omega, fun j h5 h6 => ?_, fun h5 => h4 (by omega)⟩
      by_cases e : j = k
      · subst e; simpa using h
      · exact h3 j (by omega) h6
theorem firstF_uniq {p : Nat → Bool} {f k r : Nat} (h1 : k ≤ r) (h2 : r ≤ k + f) (h3 : ∀ j, k ≤ j → j < r → p j = false) (h4 : r < k + f → p r = true) : firstF p f k = r := by
  obtain ⟨q1, q2, q3, q4⟩ := firstF_spec p f k
  rcases Nat.lt_trichotomy (firstF p f k) r with h | h | h
  · have := h3 _ q1 h
    rw [q4 (by omega)] at this; cases this
  · exact h
  · have := q3 r h1 h
    rw [h4 (by omega)] at this; cases this
theorem lastTo_spec (p : Nat → Bool) : ∀ k, (∀ j : Nat, lastTo p k < j → j < k → p j = false) ∧ (0 ≤ lastTo p k → p (lastTo p k).toNat = true)
  | 0 => ⟨fun j _ h => by omega, fun h => by simp [lastTo] at h⟩
  | k + 1 => by
    simp only [lastTo]
    by_cases h : p k = true
    · rw [if_pos h]
      exact ⟨fun j h1 h2 => by omega, fun _ => by simpa using h⟩
    · rw [if_neg h]
      obtain ⟨h1, h2⟩ := lastTo_spec p k
      refine ⟨fun j h3 h4 => ?_, h2⟩
      by_cases e : j = k
      · subst e; simpa using h
      · exact h1 j h3 (by omega)
theorem lastTo_uniq {p : Nat → Bool} {k : Nat} {r : Int} (h0 : -1 ≤ r) (h1 : r < k) (h2 : ∀ j : Nat, r < j → j < k → p j = false) (h3 : 0 ≤ r → p r.toNat = true) : lastTo p k = r := by
  obtain ⟨q0, q1⟩ := lastTo_bound p k
  obtain ⟨q2, q3⟩ := lastTo_spec p k
  by_cases h : lastTo p k < r
  · have := q2 r.toNat (by omega) (by omega)
    rw [h3 (by omega)] at this; cases this
  · by_cases h' : r < lastTo p k
    · have := h2 (lastTo p k).toNat (by omega) (by omega)
      rw [q3 (by omega)] at this; cases this
    · omega
def loP (l : List Slt) (x : Ent) (k : Nat) : Bool := (nth l k).valid && eAbove x (nth l k).e
def hiP (l : List Slt) (x : Ent) (k : Nat) : Bool := (nth l k).valid && eAbove (nth l k).e x
def emP (l : List Slt) (k : Nat) : Bool := !(nth l k).valid
def loF (l : List Slt) (x : Ent) (k : Nat) : Nat := firstF (loP l x) (l.length - k) k
def hiF (l : List Slt) (x : Ent) (n : Nat) : Int := lastTo (hiP l x) n
theorem loF_spec (l : List Slt) (x : Ent) {k : Nat} (hk : k ≤ l.length) : k ≤ loF l x k ∧ loF l x k ≤ l.length ∧ (∀ j, k ≤ j → j < loF l x k → loP l x j = false) ∧ (loF l x k < l.length → loP l x (loF l x k) = true) := by
  obtain ⟨h1, h2, h3, h4⟩ := firstF_spec (loP l x) (l.length - k) k
  exact ⟨h1, by unfold loF; omega, h3, fun h => h4 (by unfold loF at h; omega)⟩
def gapFrom (l : List Slt) (x : Ent) : Int := hiF l x l.length + 1
def gapTo (l : List Slt) (x : Ent) : Nat := loF l x 0
theorem gapFrom_bound (l : List Slt) (x : Ent) : 0 ≤ gapFrom l x ∧ gapFrom l x ≤ l.length := by
  have := lastTo_bound (hiP l x) l.length
  unfold gapFrom hiF
  omega
theorem gapTo_bound (l : List Slt) (x : Ent) : gapTo l x ≤ l.length := (loF_spec l x (Nat.zero_le _)).2.1
def entsS (l : List Slt) : List Ent := (l.filter Slt.valid).map Slt.e
def OrdS (l : List Slt) : Prop := l.Pairwise fun s t => s.valid = true → t.valid = true → eAbove t.e s.e = false
theorem ordered_pw (xs : List Ent) : ordered xs = true ↔ xs.Pairwise fun x y => eAbove y x = false := by
  unfold ordered
  rw [ordTo_iff xs _ (Nat.le_refl _), List.pairwise_iff_getElem]
  constructor
  · intro h i j hi hj hij
    have := h j hj i hij
    rwa [nth_at _ hj, nth_at _ hi] at this
  · intro h k hk i hi
    rw [nth_at _ hk, nth_at _ (by omega : i < xs.length)]
    exact h i k (by omega) hk hi
theorem ordS_iff (l : List Slt) : ordered (entsS l) = true ↔ OrdS l := by
  rw [ordered_pw]
  unfold entsS OrdS
  rw [List.pairwise_map, List.pairwise_filter]
theorem OrdS.get {l : List Slt} (h : OrdS l) {i j : Nat} (hij : i < j) (hj : j < l.length) (hi : (nth l i).valid = true) (hv : (nth l j).valid = true) : eAbove (nth l j).e (nth l i).e = false := by
  have hi' : i < l.length := by omega
  rw [nth_at _ hj, nth_at _ hi'] at *
  exact (List.pairwise_iff_getElem.1 h) i j hi' hj hij hi hv
theorem OrdS.of_get {l : List Slt} (h : ∀ i j, i < j → j < l.length → (nth l i).valid = true → (nth l j).valid = true → eAbove (nth l j).e (nth l i).e = false) : OrdS l := by
  refine List.pairwise_iff_getElem.2 fun i j hi hj hij h1 h2 => ?_
  have := h i j hij hj (by rw [nth_at _ hi]; exact h1) (by rw [nth_at _ hj]; exact h2)
  rwa [nth_at _ hi, nth_at _ hj] at this
theorem eAbove_irr (x : Ent) : eAbove x x = false := by
  unfold eAbove
  rw [decide_eq_false (by omega)]; rfl
/-! ### Ways -/
def wayG (nx : Int → Int × Int) (n : Nat) : Nat → Int → List Int
  | 0, _ => []
  | f + 1, at_ => if 0 ≤ at_ ∧ at_ < n then (if 0 ≤ (nx at_).2 then [at_, (nx at_).2] else match wayG nx n f (nx at_).1 with | [] => [] | b :: w => at_ :: b :: w) else []
def behind (pre w : List Int) : List Int := match w with | [] => [] | b :: w => pre ++ b :: w
def emFirst (l : List Slt) (k m : Nat) : Int := if firstF (emP l) (m - k) k < m then (firstF (emP l) (m - k) k : Int) else -1
def emLast (l : List Slt) (k m : Nat) : Int := if (k : Int) ≤ lastTo (emP l) m then lastTo (emP l) m else -1
def nextB (l : List Slt) (at_ : Int) : Int × Int := ((loF l (nth l at_.toNat).e (at_.toNat + 1) : Int), emFirst l (at_.toNat + 1) (loF l (nth l at_.toNat).e (at_.toNat + 1)))
def nextA (l : List Slt) (at_ : Int) : Int × Int := (hiF l (nth l at_.toNat).e at_.toNat, emLast l (hiF l (nth l at_.toNat).e at_.toNat + 1).toNat at_.toNat)
def wayB (l : List Slt) (to : Int) : List Int := wayG (nextB l) l.length (l.length + 1) to
def wayA (l : List Slt) (from_ : Int) : List Int := wayG (nextA l) l.length (l.length + 1) from_
def wr1 (l : List Slt) (w : List Int) (j : Nat) : Wrt := ⟨nth w (w.length - 1 - j), nth l (nth w (w.length - 2 - j)).toNat⟩
def writesTo (l : List Slt) (w : List Int) (j : Nat) : List Wrt := (List.range j).map (wr1 l w)
theorem writesTo_step (l : List Slt) (w : List Int) (j : Nat) : writesTo l w (j + 1) = writesTo l w j ++ [wr1 l w j] := by
  unfold writesTo
  rw [List.range_succ, List.map_append]; rfl
theorem writesTo_length (l : List Slt) (w : List Int) (j : Nat) : (writesTo l w j).length = j := by simp [writesTo]
def writesOf (l : List Slt) (x : Ent) (w : List Int) : List Wrt := writesTo l w (w.length - 1) ++ [⟨nth w 0, ⟨true, x⟩⟩]
theorem writesOf_length (l : List Slt) (x : Ent) {w : List Int} (h : 0 < w.length) : (writesOf l x w).length = w.length := by
  unfold writesOf
  rw [List.length_append, writesTo_length, List.length_singleton]; omega
def insC (l : List Slt) (x : Ent) : List Wrt × Int :=
  if eRight x = false then ([], 1) else
  if ordered (entsS l) = false ∨ (gapTo l x : Int) < gapFrom l x then ([], 7) else
  if 0 ≤ emFirst l (gapFrom l x).toNat (gapTo l x) then (writesOf l x [emFirst l (gapFrom l x).toNat (gapTo l x)], 0) else
  if (wayB l (gapTo l x)).length + (wayA l (gapFrom l x - 1)).length = 0 then ([], 3) else
  if (wayB l (gapTo l x)).length = 0 ∨ 0 < (wayA l (gapFrom l x - 1)).length ∧ (wayA l (gapFrom l x - 1)).length < (wayB l (gapTo l x)).length then (writesOf l x (wayA l (gapFrom l x - 1)), 0) else (writesOf l x (wayB l (gapTo l x)), 0)
end Go.Proofs.YtjmnnkhdadoehaaGreat

/- Abstract walks: literals that may be written in place. -/
namespace Go.Proofs.YtjmnnkhdadoehaaGreat
set_option linter.unusedSimpArgs false
set_option linter.unusedVariables false
open Go Go.RowKit Go.Shelf
section
variable {P : Program} {N : Nat} {K0 : Know} {w0 : Bas} {Q : St → Prop} {ty : TypeId} {pos : String} {aft : Array Edge} {g : Option (Nat × Bool)} {tm : List (Nat × AV)} {bs : List (Nat × List AV)} {ar : List (Nat × Arr)} {dn : Nat}
end
end Go.Proofs.YtjmnnkhdadoehaaGreat

/- Abstract walks: closures over slices; calls that are handed closures and give rows. -/
namespace Go.Proofs.YtjmnnkhdadoehaaGreat
set_option linter.unusedSimpArgs false
set_option linter.unusedVariables false
open Go Go.RowKit Go.Shelf
def PSl (k : Nat) (xs : Cells) (K : Know) (c : Value) : Prop := ∃ (b o : Nat) (u : Value), c = Value.pointer (some ⟨b, o, none⟩) ∧ K b o = some u ∧ Rep1 K Nm.nil (.sl k xs) u
theorem PSl.mono {k : Nat} {xs : Cells} {K K' : Know} {c : Value} (h : PSl k xs K c) (hK : K.le K') : PSl k xs K' c := by
  obtain ⟨b, o, u, h1, h2, h3⟩ := h
  exact ⟨b, o, u, h1, hK _ _ _ h2, h3.mono hK⟩
def FnIs (P : Program) (spec : List AV → AV → Prop) (K : Know) (c : Value) : Prop :=
  ∃ (f : FuncId) (fn : Func) (b : Code) (ps : List Value) (caps : List AV), c = .func (.func f) #[] ps.toArray ∧ P.funcs[f]? = some fn ∧ (fn.name == "runtime.NumGoroutine") = false ∧ fn.body = some b ∧ ps.length = caps.length ∧
    (∀ (i : Nat) A p, caps[i]? = some A → ps[i]? = some p → Rep1 K Nm.nil A p) ∧ ∀ As res, spec As res → Good P f (As ++ caps) res
theorem FnIs.mono {P : Program} {spec : List AV → AV → Prop} {K K' : Know} {c : Value} (h : FnIs P spec K c) (hK : K.le K') : FnIs P spec K' c := by
  obtain ⟨f, fn, b, ps, caps, h1, h2, h3, h4, h5, h6, h7⟩ := h
  exact ⟨f, fn, b, ps, caps, h1, h2, h3, h4, h5, fun i A p a b => (h6 i A p a b).mono hK, h7⟩
section
variable {P : Program} {N : Nat} {K0 : Know} {w0 : Bas} {S S' : St} {K K' : Know} {n : Nm} {a : Act} {w w' : World} {Q : St → Prop}
variable {d dO : Option Nat} {ty : TypeId} {pos : String} {aft : Array Edge} {g : Option (Nat × Bool)} {t e : TypeId} {x y : Operand} {tm : List (Nat × AV)} {bs : List (Nat × List AV)} {ar : List (Nat × Arr)} {dn : Nat}
theorem OpH.loadP {k : Nat} {xs : Cells} (h1 : S.opv x = .pr (PSl k xs)) (hk : oneSize P t = true) : OpH P N K0 w0 ⟨d, .load t x, ty, pos, aft, g⟩ S (.sl k xs) := by
  refine OpH.ret (fun S' K n a w hs _ hop => ?_) (no_row (by intros; intro h; cases h) (by intros; intro h; cases h))
  have e1 := hs.opv x
  rw [hop x (by simp [Op.operands]), h1] at e1
  obtain ⟨b, o, u, e2, h2, h3⟩ := e1 K (Know.le_refl K)
  refine ⟨u, ?_, h3⟩
  simp only [execOp]
  rw [e2, Sem.run_bind, run_load_one hk (v := u) (hs.ok _ _ _ h2)]
  rfl
theorem OpH.callP {spec : List AV → AV → Prop} {args : Array Operand} {ats : Array TypeId} {As : List AV} {res : AV} (h0 : S.opv x = .pr (FnIs P spec)) (hargs : (args.toList.map fun x => (S.opv x).arg) = As) (hsp : spec As res) (hp : res.plain = true) :
    OpH P N K0 w0 ⟨d, .call { callee := .value x, args := args, argTypes := ats }, ty, pos, aft, g⟩ S res := by
  subst hargs
  intro S' K n a w hs hB hop
  have hx := hs.opv x
  rw [hop x (by simp [Op.operands, Call.operands]), h0] at hx
  obtain ⟨f, fn, b, ps, caps, e1, hf, hname, hb, e2, e3, hg⟩ := hx K (Know.le_refl K)
  have hargsOf : ∀ y ∈ args.toList, S'.opv y = S.opv y := fun y hy => hop y (by simp only [Op.operands, Call.operands]; simp; right; simpa using hy)
  have key : ∀ {R : Ending → World → Prop}, Calls P f ((args.toList.map a.eval) ++ ps).toArray w R → Calls P f ((args.toList.map a.eval).toArray ++ ps.toArray) w R := fun h => by simpa using h
  refine upon_enter_calls (call_runD hf hname hb e1 w) (key (hg _ _ hsp K w (args.toList.map a.eval ++ ps) hs.ok (by simp [e2]) fun i B cv hBi hci => ?_)) ?_
  · by_cases hi : i < args.toList.length
    · rw [List.getElem?_append_left (by simpa using hi), List.getElem?_map, Option.map_eq_some_iff] at hBi
      rw [List.getElem?_append_left (by simpa using hi), List.getElem?_map, Option.map_eq_some_iff] at hci
      obtain ⟨y, hy, rfl⟩ := hBi
      obtain ⟨y', hy', rfl⟩ := hci
      rw [hy] at hy'
      injection hy' with hy'
      subst hy'
      have h1 := hs.opv y
      rw [hargsOf y (List.mem_of_getElem? hy)] at h1
      exact (AV.arg_of (S.opv y)).rep h1
    · rw [List.getElem?_append_right (by simpa using hi)] at hBi
      rw [List.getElem?_append_right (by simpa using hi)] at hci
      exact e3 _ B cv (by simpa using hBi) (by simpa using hci)
  · rintro e w' ⟨c, K', rfl, h1, h2, h3, h4, ρ, h5, _⟩
    exact ⟨c, rfl, c, K', rfl, h1, h2, h3, h4, h5.plain hp, fun r e k xs hr => absurd hr (AV.plain_row hp r e k xs)⟩
inductive ArgP (P : Program) (S : St) : AV → AV → Prop
  | b {A A'} (h : ArgB S A A') : ArgP P S A A'
  | fn {A f fn b bx k xs} (spec : List AV → AV → Prop) (hA : A = .cloB f [(bx, 0)]) (hB : getB S.boxes bx = some [.sl k xs]) (hf : P.funcs[f]? = some fn) (hname : (fn.name == "runtime.NumGoroutine") = false) (hb : fn.body = some b)
      (hg : ∀ As res, spec As res → Good P f (As ++ [.pr (PSl k xs)]) res) : ArgP P S A (.pr (FnIs P spec))
def ArgsP (P : Program) (S : St) : List Operand → List AV → Prop
  | [], [] => True
  | x :: xs, A :: As => ArgP P S (S.opv x) A ∧ ArgsP P S xs As
  | _, _ => False
theorem ArgsP.get {S : St} : ∀ {xs : List Operand} {As : List AV}, ArgsP P S xs As → xs.length = As.length ∧ ∀ (i : Nat) A x, As[i]? = some A → xs[i]? = some x → ArgP P S (S.opv x) A
  | [], [], _ => ⟨rfl, fun i A x h => by simp at h⟩
  | [], _ :: _, h => h.elim
  | _ :: _, [], h => h.elim
  | x :: xs, A :: As, h => by
    obtain ⟨h1, h2⟩ := ArgsP.get h.2
    refine ⟨by simp [h1], fun i B y hB hy => ?_⟩
    cases i with
    | zero => simp at hB hy; subst hB hy; exact h.1
    | succ i => exact h2 i B y (by simpa using hB) (by simpa using hy)
theorem ArgP.rep (hs : Sim N K0 w0 S K n a w) {A A' : AV} {c : Value} (h : ArgP P S A A') (hr : Rep K n A c) : Rep1 (K.boxed n S w) Nm.nil A' c := by
  cases h with
  | b h => exact h.rep hs hr
  | fn spec hA hB hf hname hb hg =>
    subst hA
    rename_i f fn b bx k xs
    obtain ⟨ps, e, h1, h2⟩ := hr
    obtain ⟨p, rfl⟩ : ∃ p, ps = [p] := by
      cases ps with
      | nil => simp at h1
      | cons p ps => cases ps with
        | nil => exact ⟨p, rfl⟩
        | cons q ps => simp at h1
    obtain ⟨b', hβ, rfl⟩ := h2 0 p bx 0 rfl rfl
    have hm := getB_mem hB
    obtain ⟨b2, arr, ty2, q1, q2, q3, q4, q5, q6⟩ := hs.box bx _ hm
    rw [hβ] at q1
    injection q1 with q1
    subst q1
    have h7 := q5 0 _ rfl
    have hlt : 0 < arr.size := by rw [q4]; simp
    have hk : K.boxed n S w b' 0 = some (arr.getD 0 undef) := by
      unfold Know.boxed
      rw [q6]
      simp only
      rw [if_pos ⟨bx, _, hm, hβ⟩]
      simp only [World.cell?, q3]
      simp [Array.getD_eq_getD_getElem?, Array.getElem?_eq_getElem hlt]
    have hP : PSl k xs (K.boxed n S w) (.pointer (some ⟨b', 0, none⟩)) := ⟨b', 0, _, rfl, hk, (show Rep1 K Nm.nil (.sl k xs) _ from h7).mono Know.boxed_le⟩
    have hF : FnIs P spec (K.boxed n S w) c := ⟨f, fn, b, [.pointer (some ⟨b', 0, none⟩)], [.pr (PSl k xs)], e, hf, hname, hb, rfl, fun i A p hA hp => by
      cases i with
      | zero =>
        simp at hA hp
        subst hA hp
        exact fun K' hK' => hP.mono hK'
      | succ i => simp at hA, hg⟩
    exact fun K' hK' => hF.mono hK'
theorem ArgP.at {S S' : St} (hB : S'.boxes = S.boxes) {B A : AV} (h : ArgP P S B A) : ArgP P S' B A := by
  cases h with
  | b h => exact .b (h.at hB)
  | fn spec hA hB' hf hname hb hg => exact .fn spec hA (by rw [hB]; exact hB') hf hname hb hg
noncomputable def Know.since (K K' : Know) (m : Nat) : Know := fun b o => if m ≤ b then K' b o else K b o
theorem T.callRowP {f : FuncId} {fn : Func} {c : Code} {args : Array Operand} {ats : Array TypeId} {As : List AV} {r k : Nat} {xs : Cells} (hf : P.funcs[f]? = some fn) (hname : (fn.name == "runtime.NumGoroutine") = false) (hb : fn.body = some c)
    (hargs : ArgsP P ⟨tm, bs, ar⟩ args.toList As) (hg : Good P f As (.row r e k xs)) (hd : dn < N) (hfr : St.free ⟨tm, bs, ar⟩ dn = true) (hq : Q ⟨(dn, .row dn e k xs) :: tm, bs, ar⟩) : OpT P N K0 w0 ⟨some dn, .call { callee := .value (.func f), args := args, argTypes := ats }, ty, pos, aft, g⟩ ⟨tm, bs, ar⟩ Q := by
  intro K n a w hs
  obtain ⟨hl, ha⟩ := hargs.get
  refine upon_enter_calls (call_run hf hname hb a w) (hg (K.boxed n ⟨tm, bs, ar⟩ w) w (args.toList.map a.eval) (Know.boxed_ok hs.ok) (by simp [hl]) fun i A c hA hc => ?_) ?_
  · rw [List.getElem?_map, Option.map_eq_some_iff] at hc
    obtain ⟨x, hx, rfl⟩ := hc
    exact (ha i A x hA hx).rep hs (hs.opv x)
  · rintro e' w' ⟨c, K', rfl, h1, h2, h3, h4, ρ, ⟨h5, h6⟩, h7, _⟩
    obtain ⟨h8, h9⟩ := h7 r e k xs (.inl rfl)
    subst h5
    have hbase : ∀ g, (ρ r).ownBlock = some g → w.heap.size ≤ g := fun g hg => (own_block_lt h8 hg).1
    have kle : K.le (K.since K' w.heap.size) := fun b o v hv => by
      unfold Know.since
      rw [if_neg (by have := Know.lt hs.ok hv; omega)]; exact hv
    have kok : (K.since K' w.heap.size).ok w' := fun b o v hv => by
      unfold Know.since at hv
      split at hv
      · exact h3 b o v hv
      · exact (Know.below hs.ok h1) b o v hv
    have knew : ∀ b o u, K.since K' w.heap.size b o = some u → b < w.heap.size → K b o = some u := fun b o u hu hlt => by
      unfold Know.since at hu
      rwa [if_neg (by omega)] at hu
    have hs' := hs.grow h1 kle kok knew
    have hsl : Slice (K.since K' w.heap.size) k xs (ρ r) := by
      obtain ⟨A, cap, e1, e2, e3, e4⟩ := h6
      refine ⟨A, cap, e1, e2, e3, e4.1, fun i x hx => ?_⟩
      obtain ⟨q1, q2, b, off, q3, q4⟩ := e4.2 i x hx
      refine ⟨q1, q2, b, off, q3, fun j u hu => ?_⟩
      obtain ⟨A2, cap2, p1, _, _, _, p5⟩ := own_val h8
      have e1' : ρ r = .slice A xs.length cap := e1
      rw [p1] at e1'
      injection e1' with e1' _ _
      obtain ⟨g, hg1, hg2⟩ := p5 ⟨b, off, none⟩ (by rw [e1']; exact q3)
      injection hg1 with hg1 _
      unfold Know.since
      rw [if_pos (by rw [hg1]; exact hbase g hg2)]
      exact q4 j u hu
    refine ⟨ρ r, rfl, K.since K' w.heap.size, _, _, hq, hs'.putRow hd hfr ⟨h8.1, ?_⟩ (fun g hg => ⟨fun o u hu => ?_, fun b cs hbx he => ?_, fun r' e' k' xs' hr' he => ?_, fun d' A hd' he => ?_⟩) hsl⟩
    · rcases h8.2 with h8 | ⟨g, cap, cur, q1, q2, q3⟩
      · exact .inl h8
      · exact .inr ⟨g, cap, cur, q1, Nat.le_trans hs.base q2, q3⟩
    · unfold Know.since at hu
      rw [if_pos (hbase g hg)] at hu
      exact h9 g hg o u hu
    · obtain ⟨b', arr, ty', q1, _, q3, _⟩ := hs.box b cs hbx
      rw [he] at q1
      injection q1 with q1
      subst q1
      have hlt := (Array.getElem?_eq_some_iff.1 q3).1
      have := hbase _ hg
      omega
    · have := (own_block_lt (hs.row r' e' k' xs' hr').1 he).2
      have := hbase _ hg
      omega
    · have := (own_block_lt (hs.arr d' A hd').1 he).2
      have := hbase _ hg
      omega
end
end Go.Proofs.YtjmnnkhdadoehaaGreat

/- Abstract contracts: searching a row by a function. -/
namespace Go.Proofs.YtjmnnkhdadoehaaGreat
set_option linter.unusedSimpArgs false
set_option linter.unusedVariables false
open Go Go.RowKit Go.Shelf
attribute [local irreducible] OpH OpT LT CT HT Good
theorem arm77_1 {p : Prop} (h : p := by first | exact fm0 | exact fm53 | exact fm44 | exact fm6 | exact fm39 | exact fm63 | exact fm4 | fail) : p := h
set_option maxRecDepth 100000 in
set_option maxHeartbeats 2000000 in
theorem g_IndexFuncE (xs : List Ent) (g : FuncId) (fn : Func) (c : Code) (caps : List (List Value)) (p : Ent → Bool) (hf : Tryz.prog.funcs[g]? = some fn) (hname : (fn.name == "runtime.NumGoroutine") = false) (hb : fn.body = some c)
    (hp : ∀ x : Ent, Good Tryz.prog g (.val (.agg #[.int .u64 x.w.v.x, .int .u64 x.w.v.y, .int .u64 x.w.m.x, .int .u64 x.w.m.y, .int .i64 x.len, .int .i64 x.act]) :: caps.map AV.cptr) (.val (.bool (p x)))) (hl : xs.length ≤ 9223372036854775806) : Good Tryz.prog 77 [.sl 6 (xs.map encE), .clo g caps] (.val (.int .i64 (firstAt p xs))) := by
  refine Good.of_body (T := [(0, _), (1, _)]) Tryz.func77 rfl rfl rfl ?_
  intro K0 w0 hno
  repeat' (first | (apply LT.cons1; exact arm77_1; (try decide)) | refine stp ?_ | (refine stq ?_ ?_ <;> intro _))
  refine CT.loopX (fun k : Nat => (⟨[(0, .sl 6 (xs.map encE)), (1, .clo g caps), (7, .val (.int .i64 xs.length)), (8, .val (.int .i64 k))], [], []⟩ : St))
    (fun k => k ≤ xs.length ∧ ∀ (i : Nat) (x : Ent), i < k → xs[i]? = some x → p x = false) (fun k => xs.length - k) 0 ?_ ⟨by omega, fun i x hi => by omega⟩ ?_
  · exact subT
  rintro k ⟨hk, hc⟩
  by_cases hlt : k < xs.length
  · repeat' (first | (apply LT.cons1; (first | exact OpH.callD (v := .bool (p xs[k])) rfl rfl hf hname hb rfl (hp xs[k])); (try decide)) | (apply LT.cons1; exact arm77_1; (try decide)) | refine stp ?_ | (refine stq ?_ ?_ <;> intro _))
    · refine ⟨by first | exact .inl rfl | exact .inr rfl, _, (.cons (.tmp 4 (A := .val _) rfl (fun _ h => by cases h)) .nil), ?_, rfl⟩
      rename_i h
      rw [firstAt_hit p xs k hlt hc h]; rfl
    · rename_i h
      refine ⟨k + 1, ⟨by omega, none_step hc hlt h⟩, by omega, ?_⟩
      exact subT
  · obtain rfl : k = xs.length := by omega
    repeat' (first | (apply LT.cons1; exact arm77_1; (try decide)) | refine stp ?_ | (refine stq ?_ ?_ <;> intro _))
    refine ⟨by first | exact .inl rfl | exact .inr rfl, _, (.cons (.tmp 4 (A := .val _) rfl (fun _ h => by cases h)) .nil), ?_, rfl⟩
    rw [firstAt_none p xs (fun i x hx => hc i x (List.getElem?_eq_some_iff.1 hx).1 hx)]; rfl
theorem arm78_1 {p : Prop} (h : p := by first | exact fm0 | exact fm63 | exact fm13 | fail) : p := h
set_option maxRecDepth 100000 in
set_option maxHeartbeats 2000000 in
theorem g_at1 (x y : Ent) : Good Tryz.prog 78 [.val (.agg #[.int .u64 y.w.v.x, .int .u64 y.w.v.y, .int .u64 y.w.m.x, .int .u64 y.w.m.y, .int .i64 y.len, .int .i64 y.act]), .cptr (encE x)] (.val (.bool (eAlike x y))) := by
  refine Good.of_body (T := [(0, _), (1, _)]) Tryz.func78 rfl rfl rfl ?_
  intro K0 w0 hno
  repeat' (first | (refine LT.consT ?_; (first | refine T.box (e := 46) (cs := [.val _, .val _, .val _, .val _, .val _, .val _]) rfl rfl (by decide) rfl rfl ?_)) | (apply LT.cons1; exact arm78_1; (try decide)) | refine stp ?_ | (refine stq ?_ ?_ <;> intro _))
  refine ⟨by first | exact .inl rfl | exact .inr rfl, _, (.cons (.tmp 3 (A := .val _) rfl (fun _ h => by cases h)) .nil), ?_, rfl⟩
  rfl
theorem arm41_1 {p : Prop} (h : p := by first | exact fm0 | exact fm53 | exact OpH.mkfn | exact OpH.mkclo1 rfl | exact OpH.mkclo2 rfl rfl | fail) : p := h
set_option maxRecDepth 100000 in
set_option maxHeartbeats 2000000 in
theorem g_at (xs : List Ent) (x : Ent) (hl : xs.length ≤ 65536) : Good Tryz.prog 41 [.sl 6 (xs.map encE), .val (.agg #[.int .u64 x.w.v.x, .int .u64 x.w.v.y, .int .u64 x.w.m.x, .int .u64 x.w.m.y, .int .i64 x.len, .int .i64 x.act])] (.val (.int .i64 (firstAt (fun y => eAlike x y) xs))) := by
  refine Good.of_body (T := [(0, _), (1, _)]) Tryz.func41 rfl rfl rfl ?_
  intro K0 w0 hno
  repeat' (first | (apply LT.cons1; (first | exact OpH.callBF Tryz.func77 rfl rfl rfl (g_IndexFuncE xs 78 _ _ [encE x] (fun y => eAlike x y) Tryz.func78 rfl rfl (fun y => g_at1 x y) (by omega))); (try decide)) | (refine LT.consT ?_; (first | refine T.box (e := 46) (cs := [.val _, .val _, .val _, .val _, .val _, .val _]) rfl rfl (by decide) rfl rfl ?_)) | (apply LT.cons1; exact arm41_1; (try decide)) | refine stp ?_ | (refine stq ?_ ?_ <;> intro _))
  refine ⟨by first | exact .inl rfl | exact .inr rfl, _, (.cons (.tmp 4 (A := .val _) rfl (fun _ h => by cases h)) .nil), ?_, rfl⟩
  rfl
end Go.Proofs.YtjmnnkhdadoehaaGreat

/- Abstract contracts: diff.Once. -/
namespace Go.Proofs.YtjmnnkhdadoehaaGreat
set_option linter.unusedSimpArgs false
set_option linter.unusedVariables false
open Go Go.RowKit Go.Shelf
def onceTo (xs : List Ent) : Nat → List Ent
  | 0 => []
  | k + 1 => if firstAt (fun y => eAlike (nth xs k) y) (onceTo xs k) < 0 then onceTo xs k ++ [nth xs k] else onceTo xs k
def once (xs : List Ent) : List Ent := onceTo xs xs.length
theorem onceTo_length (xs : List Ent) : ∀ k, (onceTo xs k).length ≤ k
  | 0 => Nat.le_refl _
  | k + 1 => by
    have := onceTo_length xs k
    simp only [onceTo]
    split
    · simp; exact this
    · omega
theorem once_length (xs : List Ent) : (once xs).length ≤ xs.length := onceTo_length xs _
theorem onceTo_add {xs : List Ent} {k : Nat} (hk : k < xs.length) (h : firstAt (fun y => eAlike xs[k] y) (onceTo xs k) < 0) : onceTo xs (k + 1) = onceTo xs k ++ [xs[k]] := by
  simp only [onceTo]
  rw [nth_at xs hk, if_pos h]
theorem onceTo_keep {xs : List Ent} {k : Nat} (hk : k < xs.length) (h : ¬ firstAt (fun y => eAlike xs[k] y) (onceTo xs k) < 0) : onceTo xs (k + 1) = onceTo xs k := by
  simp only [onceTo]
  rw [nth_at xs hk, if_neg h]
attribute [local irreducible] OpH OpT LT CT HT Good
theorem arm40_1 {p : Prop} (h : p := by first | exact fm0 | exact fm53 | exact fm44 | exact fm6 | exact fm39 | exact fm63 | exact OpH.callF Tryz.func41 rfl rfl rfl ((g_at _ _ (by first | omega | (simp; omega) | simp))) rfl | exact lit_28_1 rfl | exact fm4 | fail) : p := h
theorem stpDiffB_1 {G G' : Prop} (h' : G') (h : Hidd G' → G := by (first | (intro h; (first | (refine LT.consT ?_; (first | refine T.alloc (e := 46) (z := .agg #[.int .u64 0, .int .u64 0, .int .u64 0, .int .u64 0, .int .i64 0, .int .i64 0]) (cs := [.val (.int .u64 0), .val (.int .u64 0), .val (.int .u64 0), .val (.int .u64 0), .val (.int .i64 0), .val (.int .i64 0)]) (by kernel_rfl) rfl (by decide) rfl rfl ?_ | refine T.store (t := 46) rfl rfl rfl (by kernel_rfl) (by kernel_rfl) (Nat.le_of_ble_eq_true (by kernel_rfl)) rfl rfl ?_ | refine T.appNil (t := 28) (e := 46) (k := 6) (bytes := 48) rfl rfl srP (by kernel_rfl) szP (by decide) rfl ?_ | refine T.app (t := 28) (e := 46) (k := 6) (bytes := 48) rfl rfl srP (by kernel_rfl) szP (by decide) rfl rfl ?_)) | (apply LT.cons1; exact arm40_1; (try decide))); exact h.1) | fail)) : G := h ⟨h'⟩
set_option maxRecDepth 100000 in
set_option maxHeartbeats 2000000 in
theorem g_Once (xs : List Ent) (hl : xs.length ≤ 65536) : Good Tryz.prog 40 [.sl 6 (xs.map encE)] (.row 3 46 6 ((once xs).map encE)) := by
  refine Good.of_body (T := [(0, _)]) Tryz.func40 rfl rfl rfl ?_
  intro K0 w0 hno
  repeat' (first | refine stpDiffB_1 ?_ | refine stp ?_ | (refine stq ?_ ?_ <;> intro _))
  refine CT.loopX (fun k : Nat => (⟨[(0, .sl 6 (xs.map encE)), (3, .row 3 46 6 ((onceTo xs k).map encE)), (6, .sl 6 (xs.map encE)), (7, .val (.int .i64 xs.length)), (8, .val (.int .i64 k))], [], []⟩ : St))
    (fun k => k ≤ xs.length) (fun k => xs.length - k) 0 ?_ (by omega) ?_
  · exact subT
  rintro k hk
  by_cases hlt : k < xs.length
  · have hlen := onceTo_length xs k
    repeat' (first | (apply LT.cons1; (first | exact OpH.callF Tryz.func41 rfl rfl rfl (g_at (onceTo xs k) xs[k] (by omega)) rfl); (try decide)) | refine stpDiffB_1 ?_ | refine stp ?_ | (refine stq ?_ ?_ <;> intro _))
    · rename_i h
      refine ⟨k + 1, by omega, by omega, ?_⟩
      have hst := onceTo_add hlt h
      rw [hst]
      exact subT
    · rename_i h
      refine ⟨k + 1, by omega, by omega, ?_⟩
      have hst := onceTo_keep hlt h
      rw [hst]
      exact subT
  · obtain rfl : k = xs.length := by omega
    repeat' (first | refine stpDiffB_1 ?_ | refine stp ?_ | (refine stq ?_ ?_ <;> intro _))
    refine ⟨by first | exact .inl rfl | exact .inr rfl, _, (.cons (.tmp 2 (A := .row _ _ _ _) rfl (fun _ h => by cases h)) .nil), ?_, rfl⟩
    rfl
end Go.Proofs.YtjmnnkhdadoehaaGreat

/- Abstract contracts: the reference's Alike, find, Once. -/
namespace Go.Proofs.YtjmnnkhdadoehaaGreat
set_option linter.unusedSimpArgs false
set_option linter.unusedVariables false
open Go Go.RowKit Go.Shelf
theorem alike_comm (x y : Ent) : eAlike x y = eAlike y x := by
  unfold eAlike same
  rw [Bool.eq_iff_iff]
  simp only [Bool.and_eq_true, decide_eq_true_eq, beq_iff_eq]
  constructor <;> rintro ⟨h1, h2⟩ <;> exact ⟨h1.symm, h2.symm⟩
theorem firstAt_neg {α : Type} (p : α → Bool) (xs : List α) : firstAt p xs < 0 ↔ ∀ x ∈ xs, p x = false := by
  induction xs with
  | nil => simp [firstAt]
  | cons x xs ih =>
    have hge := firstAt_ge p xs
    simp only [firstAt, List.mem_cons, forall_eq_or_imp]
    by_cases hp : p x = true
    · simp [hp]
    · have hp' : p x = false := by simpa using hp
      simp only [hp', Bool.false_eq_true, if_false, true_and, ← ih]
      split <;> omega
theorem alike_trans {x y z : Ent} (h1 : eAlike x y = true) (h2 : eAlike y z = true) : eAlike x z = true := by
  unfold eAlike same at *
  simp only [Bool.and_eq_true, decide_eq_true_eq, beq_iff_eq] at *
  exact ⟨h1.1.trans h2.1, h1.2.trans h2.2⟩
theorem alike_refl (x : Ent) : eAlike x x = true := by simp [eAlike, same]
theorem onceTo_take (xs : List Ent) : ∀ k, k ≤ xs.length → (∀ y ∈ onceTo xs k, y ∈ xs.take k) ∧ ∀ y ∈ xs.take k, ∃ z ∈ onceTo xs k, eAlike y z = true
  | 0, _ => ⟨fun y h => by simp [onceTo] at h, fun y h => by simp at h⟩
  | k + 1, hk => by
    obtain ⟨h1, h2⟩ := onceTo_take xs k (by omega)
    have hlt : k < xs.length := by omega
    have ht : xs.take (k + 1) = xs.take k ++ [xs[k]] := List.take_succ_eq_append_getElem hlt
    by_cases hf : firstAt (fun y => eAlike xs[k] y) (onceTo xs k) < 0
    · rw [onceTo_add hlt hf, ht]
      refine ⟨fun y hy => ?_, fun y hy => ?_⟩
      · rcases List.mem_append.1 hy with hy | hy
        · exact List.mem_append_left _ (h1 y hy)
        · exact List.mem_append_right _ hy
      · rcases List.mem_append.1 hy with hy | hy
        · obtain ⟨z, hz, ha⟩ := h2 y hy
          exact ⟨z, List.mem_append_left _ hz, ha⟩
        · simp at hy; subst hy
          exact ⟨xs[k], by simp, alike_refl _⟩
    · rw [onceTo_keep hlt hf, ht]
      refine ⟨fun y hy => List.mem_append_left _ (h1 y hy), fun y hy => ?_⟩
      rcases List.mem_append.1 hy with hy | hy
      · exact h2 y hy
      · simp at hy; subst hy
        rw [firstAt_neg] at hf
        exact Classical.byContradiction fun hne => hf fun z hz => by
          cases hq : eAlike xs[k] z with
          | false => rfl
          | true => exact absurd ⟨z, hz, hq⟩ hne
attribute [local irreducible] OpH OpT LT CT HT Good
end Go.Proofs.YtjmnnkhdadoehaaGreat

/- Abstract contracts: slices.DeleteFunc of rows that may be written in place. -/
namespace Go.Proofs.YtjmnnkhdadoehaaGreat
set_option linter.unusedSimpArgs false
set_option linter.unusedVariables false
open Go Go.RowKit Go.Shelf
attribute [local irreducible] OpH OpT LT CT HT Good GoodO
theorem firstAt_found {p : Ent → Bool} : ∀ {xs : List Ent} {k : Nat}, firstAt p xs = (k : Int) → ∃ hk : k < xs.length, p xs[k] = true ∧ ∀ (i : Nat) (hi : i < k) (hi' : i < xs.length), p xs[i] = false
  | [], k, h => by simp [firstAt] at h
  | x :: xs, k, h => by
    have hge := firstAt_ge p xs
    cases hp : p x with
    | true =>
      simp [firstAt, hp] at h
      obtain rfl : k = 0 := by omega
      exact ⟨by simp, by simpa using hp, fun i hi => by omega⟩
    | false =>
      simp only [firstAt, hp, Bool.false_eq_true, if_false] at h
      split at h
      · omega
      · obtain ⟨k', rfl⟩ : ∃ k', k = k' + 1 := ⟨k - 1, by omega⟩
        obtain ⟨h1, h2, h3⟩ := firstAt_found (p := p) (xs := xs) (k := k') (by omega)
        refine ⟨by simp; omega, by simpa using h2, fun i hi hi' => ?_⟩
        cases i with
        | zero => simpa using hp
        | succ i => simpa using h3 i (by omega) (by simpa using hi')
end Go.Proofs.YtjmnnkhdadoehaaGreat

/- Abstract contracts: few, one, same of law 11. -/
namespace Go.Proofs.YtjmnnkhdadoehaaGreat
set_option linter.unusedSimpArgs false
set_option linter.unusedVariables false
open Go Go.RowKit Go.Shelf
attribute [local irreducible] OpH OpT LT CT HT Good
end Go.Proofs.YtjmnnkhdadoehaaGreat

/- Abstract contracts: ref11.Do. -/
namespace Go.Proofs.YtjmnnkhdadoehaaGreat
set_option linter.unusedSimpArgs false
set_option linter.unusedVariables false
open Go Go.RowKit Go.Shelf
def doOne (s : Stp) (x : Ent) : List Ent :=
  if s.kind = 1 ∧ eAlike x s.e = true then [s.e] else if s.kind = 2 ∧ eAlike x s.e = true then [] else [x]
def doStep (s : Stp) (xs : List Ent) : List Ent := xs.flatMap (doOne s) ++ (if s.kind = 0 then [s.e] else [])
theorem doOne_set {s : Stp} {x : Ent} (h1 : s.kind = 1) (h2 : eAlike x s.e = true) : doOne s x = [s.e] := by unfold doOne; rw [if_pos ⟨h1, h2⟩]
theorem doOne_drop {s : Stp} {x : Ent} (h1 : s.kind = 2) (h2 : eAlike x s.e = true) : doOne s x = [] := by unfold doOne; rw [if_neg (fun h => by omega), if_pos ⟨h1, h2⟩]
theorem doOne_keep {s : Stp} {x : Ent} (h1 : ¬ (s.kind = 1 ∧ eAlike x s.e = true)) (h2 : ¬ (s.kind = 2 ∧ eAlike x s.e = true)) : doOne s x = [x] := by unfold doOne; rw [if_neg h1, if_neg h2]
end Go.Proofs.YtjmnnkhdadoehaaGreat

/- Abstract contracts: diff.Do. -/
namespace Go.Proofs.YtjmnnkhdadoehaaGreat
set_option linter.unusedSimpArgs false
set_option linter.unusedVariables false
open Go Go.RowKit Go.Shelf
attribute [local irreducible] OpH OpT LT CT HT Good GoodO
end Go.Proofs.YtjmnnkhdadoehaaGreat

/- Abstract contracts: diff.Do, diff.Count. -/
namespace Go.Proofs.YtjmnnkhdadoehaaGreat
set_option linter.unusedSimpArgs false
set_option linter.unusedVariables false
open Go Go.RowKit Go.Shelf
theorem do_drop {s : Stp} (h2 : s.kind = 2) (xs : List Ent) : doStep s xs = xs.filter fun x => !eAlike x s.e := by
  unfold doStep
  rw [if_neg (by omega), List.append_nil]
  induction xs with
  | nil => rfl
  | cons x xs ih =>
    rw [List.flatMap_cons, ih]
    cases ha : eAlike x s.e with
    | true => rw [doOne_drop h2 ha, List.filter_cons_of_neg (by simp [ha])]; rfl
    | false => rw [doOne_keep (by simp [ha]) (by simp [ha]), List.filter_cons_of_pos (by simp [ha])]; rfl
theorem do_keepAll {s : Stp} (h1 : ¬ s.kind = 1) (h2 : ¬ s.kind = 2) (xs : List Ent) : xs.flatMap (doOne s) = xs := by
  induction xs with
  | nil => rfl
  | cons x xs ih => rw [List.flatMap_cons, ih, doOne_keep (fun h => h1 h.1) (fun h => h2 h.1)]; rfl
attribute [local irreducible] OpH OpT LT CT HT Good GoodO
end Go.Proofs.YtjmnnkhdadoehaaGreat
