/- Abstract contracts out of contracts, and back; results of single operations. -/
import Derived.Test.YtjgjohonbjmakaaAbsJ
import Derived.IntWalk
namespace Go.Proofs.Ytjgjohonbjmakaa
set_option linter.unusedSimpArgs false
set_option linter.unusedVariables false
open Go Go.RowKit Go.Shelf

section
variable {P : Program} {f : FuncId}
theorem Rd.reads {α : Type} {enc : α → List Value} {k : Nat} {K : Know} {w : World} {A : Option Addr} {xs : List α} (h : Rd K k A (xs.map enc)) (hok : K.ok w) (hpos : ∀ x, enc x ≠ []) : Reads enc k w A xs := by
  refine ⟨by simpa using h.1, fun i x hx => ?_⟩
  obtain ⟨_, _, b, off, e, h2⟩ := h.2 i (enc x) (by simp [hx])
  refine ⟨b, off, e, ?_, fun j u hu => hok _ _ _ (h2 j u hu)⟩
  cases he : enc x with
  | nil => exact absurd he (hpos x)
  | cons u us => exact Know.lt hok (h2 0 u (by rw [he]; rfl))
def snap (w : World) : Know := fun b o => w.cell? ⟨b, o, none⟩
theorem snap_ok (w : World) : (snap w).ok w := fun _ _ _ h => h
theorem Reads.rd {α : Type} {enc : α → List Value} {k : Nat} {w : World} {A : Option Addr} {xs : List α} (h : Reads enc k w A xs) (hk : ∀ x, (enc x).length = k) (h1 : ∀ x, ∀ u ∈ enc x, u.oneCell' = true) : Rd (snap w) k A (xs.map enc) := by
  refine ⟨by simpa using h.1, fun i x hx => ?_⟩
  rw [List.getElem?_map, Option.map_eq_some_iff] at hx
  obtain ⟨y, hy, rfl⟩ := hx
  obtain ⟨b, off, e, _, h2⟩ := h.2 i y hy
  exact ⟨hk y, h1 y, b, off, e, h2⟩
/-- A contract over plain values. -/
theorem Good.vals {args : List Value} {As : List AV} {v : Value} (hA : As = args.map AV.val) (h : ∀ w, Calls P f args.toArray w fun e w' => e = .returned v ∧ Below w.heap.size w w') : Good P f As (.val v) := by
  subst hA
  intro K w cargs hok hlen hrep
  have e : cargs = args := by
    apply List.ext_getElem?
    intro i
    by_cases hi : i < args.length
    · have hi' : i < cargs.length := by rw [hlen]; simpa using hi
      have := hrep i (.val args[i]) cargs[i] (by simp [List.getElem?_eq_getElem hi]) (List.getElem?_eq_getElem hi')
      rw [List.getElem?_eq_getElem hi, List.getElem?_eq_getElem hi']
      exact congrArg some this
    · have hlen' : cargs.length = args.length := by simpa using hlen
      rw [List.getElem?_eq_none (by omega), List.getElem?_eq_none (by omega)]
  subst e
  refine (h w).mono ?_
  rintro e w' ⟨rfl, hb⟩
  exact ⟨v, K, rfl, hb, Know.le_refl K, Know.below hok hb, fun _ _ _ h _ => h, fun _ => undef, rfl, fun r e k xs h => (by rcases h with h | ⟨_, h, _⟩ <;> cases h), fun r e k xs r' e' k' xs' g h => (by rcases h with h | ⟨_, h, _⟩ <;> cases h)⟩
theorem val_tup (vs : Array Value) (K : Know) (ρ : Nat → Value) : Rep K ⟨fun _ => none, ρ⟩ (.tup (vs.toList.map AV.val)) (.tuple vs) := by
  refine ⟨vs, rfl, by simp, fun i v hv => ?_⟩
  rw [List.getElem?_map, Option.map_eq_some_iff] at hv
  obtain ⟨u, hu, rfl⟩ := hv
  have hu' : vs[i]? = some u := by simpa using hu
  show vs.getD i undef = u
  simp [Array.getD_eq_getD_getElem?, hu']
theorem no_row_tup {vs : List Value} {r e k : Nat} {xs : Cells} (h : (AV.row r e k xs).of (.tup (vs.map AV.val))) : False := by
  rcases h with h | ⟨us, h, hm⟩
  · cases h
  · injection h with h; subst h; exact vals_row _ hm
/-- Two results that are plain. -/
theorem Good.toTup {As : List AV} {vs : Array Value} {T : List AV} (hT : vs.toList.map AV.val = T) (h : Good P f As (.val (.tuple vs))) : Good P f As (.tup T) := by
  subst hT
  intro K w cargs hok hlen hrep
  refine (h K w cargs hok hlen hrep).mono ?_
  rintro e w' ⟨c, K', rfl, h1, h2, h3, h4, ρ, h5, _⟩
  have h5' : c = .tuple vs := h5
  subst h5'
  exact ⟨_, K', rfl, h1, h2, h3, h4, ρ, val_tup vs K' ρ, fun r e k xs h => (no_row_tup h).elim, fun r e k xs r' e' k' xs' g h => (no_row_tup h).elim⟩
/-- One slice, then plain values. -/
theorem Good.sl1 {α : Type} {enc : α → List Value} {k : Nat} {xs : List α} {args : List Value} {As : List AV} {v : Value} (hpos : ∀ x, enc x ≠ []) (hA : As = args.map AV.val)
    (h : ∀ A c w, xs.length ≤ c → (A = none → c = 0) → Reads enc k w A xs → Calls P f (.slice A xs.length c :: args).toArray w fun e w' => e = .returned v ∧ Below w.heap.size w w') : Good P f (.sl k (xs.map enc) :: As) (.val v) := by
  subst hA
  intro K w cargs hok hlen hrep
  match cargs, hlen, hrep with
  | c :: cargs, hlen, hrep =>
    obtain ⟨A, cap, e0, h1, h2, h3⟩ := hrep 0 _ c rfl rfl
    have e : cargs = args := by
      apply List.ext_getElem?
      intro i
      by_cases hi : i < args.length
      · have hi' : i < cargs.length := by simp at hlen; omega
        have := hrep (i + 1) (.val args[i]) cargs[i] (by simp [List.getElem?_eq_getElem hi]) (by simp [List.getElem?_eq_getElem hi'])
        rw [List.getElem?_eq_getElem hi, List.getElem?_eq_getElem hi']
        exact congrArg some this
      · have hlen' : cargs.length = args.length := by simpa using hlen
        rw [List.getElem?_eq_none (by omega), List.getElem?_eq_none (by omega)]
    subst e e0
    simp only [List.length_map] at h1 ⊢
    refine (h A cap w h1 h2 (h3.reads hok hpos)).mono ?_
    rintro e w' ⟨rfl, hb⟩
    exact ⟨v, K, rfl, hb, Know.le_refl K, Know.below hok hb, fun _ _ _ h _ => h, fun _ => undef, rfl, fun r e k xs h => (by rcases h with h | ⟨_, h, _⟩ <;> cases h), fun r e k xs r' e' k' xs' g h => (by rcases h with h | ⟨_, h, _⟩ <;> cases h)⟩
/-- What a row of the call's own is known by. -/
theorem own_res {K : Know} {w w' : World} {e k : Nat} {v : Value} {xs : Cells} (hok : K.ok w) (hb : Below w.heap.size w w') (hown : w'.ownsRow w.heap.size e k v xs.length xs.flatten) (hlen : ∀ x ∈ xs, x.length = k) (hone : oneCells xs = true) (r : Nat) :
    ∃ K', K.le K' ∧ K'.ok w' ∧ (∀ b o u, K' b o = some u → b < w.heap.size → K b o = some u) ∧ Res K' w w' (.row r e k xs) v := by
  let K' : Know := fun b o => if v.ownBlock = some b then xs.flatten[o]? else K b o
  have hge : ∀ g, v.ownBlock = some g → w.heap.size ≤ g := fun g hg => (hown.lt g hg).1
  refine ⟨K', fun b o u hu => ?_, fun b o u hu => ?_, fun b o u hu hlt => ?_, fun _ => v, ⟨rfl, own_slice hown (fun g hg o u hu => ?_) hlen hone⟩, fun r' e' k' xs' h => ?_, fun r1 e1 k1 xs1 r2 e2 k2 xs2 g h1 h2 _ _ => ?_⟩
  · have := Know.lt hok hu
    simp only [K']
    rw [if_neg (fun h => by have := hge b h; omega)]
    exact hu
  · simp only [K'] at hu
    split at hu
    · rename_i h
      have := hown.cells h o u hu
      rwa [Addr.add_mid, Nat.zero_add] at this
    · exact Know.below hok hb b o u hu
  · simp only [K'] at hu
    rwa [if_neg (fun h => by have := hge b h; omega)] at hu
  · simp only [K', if_pos hg]; exact hu
  · rcases h with h | ⟨_, h, _⟩
    · injection h with q1 q2 q3 q4
      subst q1 q2 q3 q4
      refine ⟨hown, fun g hg o u hu => ?_⟩
      simp only [K', if_pos hg] at hu
      have := (List.getElem?_eq_some_iff.1 hu).1
      rwa [hown.1] at this
    · cases h
  · rcases h1 with h1 | ⟨_, h1, _⟩
    · rcases h2 with h2 | ⟨_, h2, _⟩
      · injection h1 with q1; injection h2 with q2; exact q1.symm.trans q2
      · cases h2
    · cases h1
/-- One slice; a row of the call's own comes back. -/
theorem Good.slRow {α β : Type} {enc : α → List Value} {enc' : β → List Value} {k k' e : Nat} {xs : List α} {ys : List β} (hpos : ∀ x, enc x ≠ []) (hk : ∀ y, (enc' y).length = k') (h1 : ∀ y, ∀ u ∈ enc' y, u.oneCell' = true) {args : List Value} {As : List AV} (hA : As = args.map AV.val)
    (h : ∀ A c w, xs.length ≤ c → (A = none → c = 0) → Reads enc k w A xs → Calls P f (.slice A xs.length c :: args).toArray w fun e' w' => ∃ v, e' = .returned v ∧ w'.ownsRow w.heap.size e k' v ys.length (ys.flatMap enc') ∧ Below w.heap.size w w') : Good P f (.sl k (xs.map enc) :: As) (.row 0 e k' (ys.map enc')) := by
  subst hA
  intro K w cargs hok hlen hrep
  match cargs, hlen, hrep with
  | c :: cargs, hlen, hrep =>
    obtain ⟨A, cap, e0, q1, q2, q3⟩ := hrep 0 _ c rfl rfl
    have e : cargs = args := by
      apply List.ext_getElem?
      intro i
      by_cases hi : i < args.length
      · have hi' : i < cargs.length := by simp at hlen; omega
        have := hrep (i + 1) (.val args[i]) cargs[i] (by simp [List.getElem?_eq_getElem hi]) (by simp [List.getElem?_eq_getElem hi'])
        rw [List.getElem?_eq_getElem hi, List.getElem?_eq_getElem hi']
        exact congrArg some this
      · have hlen' : cargs.length = args.length := by simpa using hlen
        rw [List.getElem?_eq_none (by omega), List.getElem?_eq_none (by omega)]
    subst e e0
    simp only [List.length_map] at q1 ⊢
    refine (h A cap w q1 q2 (q3.reads hok hpos)).mono ?_
    rintro e w' ⟨v, rfl, hown, hb⟩
    obtain ⟨K', p1, p2, p3, p4⟩ := own_res (xs := ys.map enc') hok hb (by rw [List.length_map, ← List.flatMap_def]; exact hown) (fun x hx => by obtain ⟨y, _, rfl⟩ := List.mem_map.1 hx; exact hk y) (List.all_eq_true.2 fun x hx => by obtain ⟨y, _, rfl⟩ := List.mem_map.1 hx; exact List.all_eq_true.2 (h1 y)) 0
    exact ⟨v, K', rfl, hb, p1, p2, p3, p4⟩
/-- Back: a law's own call. -/
theorem Good.calls {As : List AV} {v : Value} (h : Good P f As (.val v)) (w : World) (cargs : List Value) (hl : cargs.length = As.length) (hr : ∀ (i : Nat) A c, As[i]? = some A → cargs[i]? = some c → Rep1 (snap w) Nm.nil A c) :
    Calls P f cargs.toArray w fun e w' => e = .returned v ∧ Below w.heap.size w w' := by
  refine (h (snap w) w cargs (snap_ok w) hl hr).mono ?_
  rintro e w' ⟨c, K', rfl, hb, _, _, _, ρ, h5, _⟩
  exact ⟨by rw [show c = v from h5], hb⟩
inductive ArgsR (w : World) : List AV → List Value → Prop
  | nil : ArgsR w [] []
  | val {v As cs} (h : ArgsR w As cs) : ArgsR w (.val v :: As) (v :: cs)
  | sl {α : Type} {enc : α → List Value} {k : Nat} {xs : List α} {A c As cs} (h1 : xs.length ≤ c) (h2 : A = none → c = 0) (h3 : Reads enc k w A xs) (h4 : ∀ x, (enc x).length = k) (h5 : ∀ x, ∀ u ∈ enc x, u.oneCell' = true) (h : ArgsR w As cs) : ArgsR w (.sl k (xs.map enc) :: As) (.slice A xs.length c :: cs)
theorem ArgsR.rep {w : World} : ∀ {As : List AV} {cs : List Value}, ArgsR w As cs → cs.length = As.length ∧ ∀ (i : Nat) A c, As[i]? = some A → cs[i]? = some c → Rep1 (snap w) Nm.nil A c
  | _, _, .nil => ⟨rfl, fun i A c h => by simp at h⟩
  | _, _, .val h => by
    obtain ⟨h1, h2⟩ := ArgsR.rep h
    refine ⟨by simp [h1], fun i A c hA hc => ?_⟩
    cases i with
    | zero => simp at hA hc; subst hA hc; exact rfl
    | succ i => exact h2 i A c (by simpa using hA) (by simpa using hc)
  | _, _, .sl q1 q2 q3 q4 q5 h => by
    obtain ⟨h1, h2⟩ := ArgsR.rep h
    refine ⟨by simp [h1], fun i A c hA hc => ?_⟩
    cases i with
    | zero => simp at hA hc; subst hA hc; exact ⟨_, _, by rw [List.length_map], by simpa using q1, q2, q3.rd q4 q5⟩
    | succ i => exact h2 i A c (by simpa using hA) (by simpa using hc)
theorem Good.run {As : List AV} {v : Value} (h : Good P f As (.val v)) {w : World} {cs : List Value} (ha : ArgsR w As cs) : Calls P f cs.toArray w fun e w' => e = .returned v ∧ Below w.heap.size w w' :=
  h.calls w cs ha.rep.1 ha.rep.2
end

/-! ### What single operations give -/
def PB (P : Program) (op : BinOp) (xt : TypeId) (x y : Operand) (v1 v2 v : Value) : Prop := ∀ w, (do eqGuard op xt x y v1 v2; binOp op xt v1 v2 : Sem Value).run P w = .ok v w
section
variable {P : Program} {xt : TypeId} {x y : Operand} {k : IntKind} {a b : Int}
theorem pb_lss : PB P .lss xt x y (.int k a) (.int k b) (.bool (decide (a < b))) := fun w => by simp [eqGuard, binOp, Op.intCmp]
theorem pb_leq : PB P .leq xt x y (.int k a) (.int k b) (.bool (decide (a ≤ b))) := fun w => by simp [eqGuard, binOp, Op.intCmp]
theorem pb_gtr : PB P .gtr xt x y (.int k a) (.int k b) (.bool (decide (b < a))) := fun w => by simp [eqGuard, binOp, Op.intCmp]
theorem pb_geq : PB P .geq xt x y (.int k a) (.int k b) (.bool (decide (b ≤ a))) := fun w => by simp [eqGuard, binOp, Op.intCmp]
theorem pb_eql : PB P .eql xt x y (.int k a) (.int k b) (.bool (decide (a = b))) := fun w => by simp [eqGuard, binOp, Op.intCmp]; exact Bool.eq_iff_iff.2 (by simp)
theorem pb_neq : PB P .neq xt x y (.int k a) (.int k b) (.bool (!decide (a = b))) := fun w => by simp [eqGuard, binOp, Op.intCmp]; exact Bool.eq_iff_iff.2 (by simp)
theorem pb_of {op : BinOp} {v1 v2 : Value} {c d : Bool} (h : PB P op xt x y v1 v2 (.bool c)) (e : c = d) : PB P op xt x y v1 v2 (.bool d) := e ▸ h
theorem pb_lss_t (h : a < b) : PB P .lss xt x y (.int k a) (.int k b) (.bool true) := pb_of pb_lss (by simpa using h)
theorem pb_lss_f (h : ¬ a < b) : PB P .lss xt x y (.int k a) (.int k b) (.bool false) := pb_of pb_lss (by simpa using h)
theorem pb_leq_t (h : a ≤ b) : PB P .leq xt x y (.int k a) (.int k b) (.bool true) := pb_of pb_leq (by simpa using h)
theorem pb_leq_f (h : ¬ a ≤ b) : PB P .leq xt x y (.int k a) (.int k b) (.bool false) := pb_of pb_leq (by simpa using h)
theorem pb_gtr_t (h : b < a) : PB P .gtr xt x y (.int k a) (.int k b) (.bool true) := pb_of pb_gtr (by simpa using h)
theorem pb_gtr_f (h : ¬ b < a) : PB P .gtr xt x y (.int k a) (.int k b) (.bool false) := pb_of pb_gtr (by simpa using h)
theorem pb_geq_t (h : b ≤ a) : PB P .geq xt x y (.int k a) (.int k b) (.bool true) := pb_of pb_geq (by simpa using h)
theorem pb_geq_f (h : ¬ b ≤ a) : PB P .geq xt x y (.int k a) (.int k b) (.bool false) := pb_of pb_geq (by simpa using h)
theorem pb_eql_t (h : a = b) : PB P .eql xt x y (.int k a) (.int k b) (.bool true) := pb_of pb_eql (by simpa using h)
theorem pb_eql_f (h : ¬ a = b) : PB P .eql xt x y (.int k a) (.int k b) (.bool false) := pb_of pb_eql (by simpa using h)
theorem pb_neq_t (h : ¬ a = b) : PB P .neq xt x y (.int k a) (.int k b) (.bool true) := pb_of pb_neq (by simpa using h)
theorem pb_neq_f (h : a = b) : PB P .neq xt x y (.int k a) (.int k b) (.bool false) := pb_of pb_neq (by simpa using h)
theorem pb_addw : PB P .add xt x y (.int k a) (.int k b) (.int k (k.wrap (a + b))) := fun w => by simp [eqGuard, binOp, Op.intArith]
theorem pb_subw : PB P .sub xt x y (.int k a) (.int k b) (.int k (k.wrap (a - b))) := fun w => by simp [eqGuard, binOp, Op.intArith]
theorem pb_mulw : PB P .mul xt x y (.int k a) (.int k b) (.int k (k.wrap (a * b))) := fun w => by simp [eqGuard, binOp, Op.intArith]
theorem pb_add (h : -9223372036854775808 ≤ a + b ∧ a + b ≤ 9223372036854775807) : PB P .add xt x y (.int .i64 a) (.int .i64 b) (.int .i64 (a + b)) := by
  have := @pb_addw P xt x y .i64 a b
  rwa [IntWalk.i64_in _ h] at this
theorem pb_addN {n m l : Nat} (hl : n + m = l) (h : n + m ≤ 9223372036854775807) : PB P .add xt x y (.int .i64 (n : Int)) (.int .i64 (m : Int)) (.int .i64 (l : Int)) := by
  subst hl
  have := @pb_add P xt x y (n : Int) (m : Int) (by omega)
  rw [Int.natCast_add]; exact this
theorem pb_inc {n : Nat} (h : n + 1 ≤ 9223372036854775807) : PB P .add xt x y (.int .i64 (n : Int)) (.int .i64 1) (.int .i64 ((n + 1 : Nat) : Int)) := by
  have := @pb_add P xt x y (n : Int) 1 (by omega)
  rw [Int.natCast_add]; exact this
theorem pb_sub (h : -9223372036854775808 ≤ a - b ∧ a - b ≤ 9223372036854775807) : PB P .sub xt x y (.int .i64 a) (.int .i64 b) (.int .i64 (a - b)) := by
  have := @pb_subw P xt x y .i64 a b
  rwa [IntWalk.i64_in _ h] at this
theorem pb_subN {n m l : Nat} (hl : n = l + m) (h : n ≤ 9223372036854775807) : PB P .sub xt x y (.int .i64 (n : Int)) (.int .i64 (m : Int)) (.int .i64 (l : Int)) := by
  have := @pb_sub P xt x y (n : Int) (m : Int) (by omega)
  rwa [show (n : Int) - m = l by omega] at this
theorem pb_dec {n l : Nat} (hl : n = l + 1) (h : n ≤ 9223372036854775807) : PB P .sub xt x y (.int .i64 (n : Int)) (.int .i64 1) (.int .i64 (l : Int)) := by
  have := @pb_sub P xt x y (n : Int) 1 (by omega)
  rwa [show (n : Int) - 1 = l by omega] at this
theorem pb_mul (h : -9223372036854775808 ≤ a * b ∧ a * b ≤ 9223372036854775807) : PB P .mul xt x y (.int .i64 a) (.int .i64 b) (.int .i64 (a * b)) := by
  have := @pb_mulw P xt x y .i64 a b
  rwa [IntWalk.i64_in _ h] at this
theorem pb_eqlB {c d : Bool} (hu : P.underlying xt = some .bool) : PB P .eql xt x y (.bool c) (.bool d) (.bool (c == d)) := fun w => run_eql_bool w xt c d hu
theorem pb_neqB {c d : Bool} (hu : P.underlying xt = some .bool) : PB P .neq xt x y (.bool c) (.bool d) (.bool (!(c == d))) := fun w => run_neq_bool w xt c d hu
theorem pb_agg {op : BinOp} {u v : Array Value} {r : Value} (hg : P.eqGuardType P.depth xt = false) (h : ∀ w, (binOp op xt (.agg u) (.agg v)).run P w = .ok r w) : PB P op xt x y (.agg u) (.agg v) r := fun w => by
  have e : (eqGuard op xt x y (.agg u) (.agg v)).run P w = .ok () w := by
    cases op <;> simp [eqGuard, hg]
  rw [Sem.run_bind, e]
  exact h w
theorem un_not {c : Bool} (w : World) : (Op.unary .not (.bool c)).run P w = .ok (.bool (!c)) w := by simp [Op.unary]
theorem un_neg {n : Int} (h : -9223372036854775807 ≤ n ∧ n ≤ 9223372036854775807) (w : World) : (Op.unary .neg (.int .i64 n)).run P w = .ok (.int .i64 (-n)) w := by
  simp only [Op.unary, Op.intArith]
  rw [IntWalk.i64_in _ (by omega)]
  simp
end
end Go.Proofs.Ytjgjohonbjmakaa
