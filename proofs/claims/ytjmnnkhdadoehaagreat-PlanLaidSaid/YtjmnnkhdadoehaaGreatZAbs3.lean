/- Abstract walks: the steps as they are taken. -/
import Derived.Test.YtjmnnkhdadoehaaGreatZAbs2
import Derived.IntWalk
namespace Go.Proofs.YtjmnnkhdadoehaaGreat
set_option linter.unusedSimpArgs false
set_option linter.unusedVariables false
open Go Go.RowKit Go.Shelf

section
variable {P : Program} {f : FuncId}
theorem Rd.reads {α : Type} {enc : α → List Value} {k : Nat} {K : Know} {w : World} {A : Option Addr} {xs : List α} (h : Rd K k A (xs.map enc)) (hok : K.ok w) (hpos : ∀ x, enc x ≠ []) : Reads enc k w A xs := by
  refine ⟨by simpa using h.1, fun i x hx => ?_⟩
  obtain ⟨_, _, b, off, e, h2⟩ := h.2 i (enc x) (by simp [hx])
  refine ⟨b, off, e, ?_, fun j u hu => hok _ _ _ (h2 j u hu)⟩
  cases he : enc x with
  | nil => exact absurd he (hpos x)
  | cons u us => exact Know.lt hok (h2 0 u (by rw [he]; rfl))
def snap (w : World) : Know := fun b o => w.cell? ⟨b, o, none⟩
theorem snap_ok (w : World) : (snap w).ok w := fun _ _ _ h => h
theorem Reads.rd {α : Type} {enc : α → List Value} {k : Nat} {w : World} {A : Option Addr} {xs : List α} (h : Reads enc k w A xs) (hk : ∀ x, (enc x).length = k) (h1 : ∀ x, ∀ u ∈ enc x, u.oneCell' = true) : Rd (snap w) k A (xs.map enc) := by
  refine ⟨by simpa using h.1, fun i x hx => ?_⟩
  rw [List.getElem?_map, Option.map_eq_some_iff] at hx
  obtain ⟨y, hy, rfl⟩ := hx
  obtain ⟨b, off, e, _, h2⟩ := h.2 i y hy
  exact ⟨hk y, h1 y, b, off, e, h2⟩
theorem Good.vals {args : List Value} {As : List AV} {v : Value} (hA : As = args.map AV.val) (h : ∀ w, Calls P f args.toArray w fun e w' => e = .returned v ∧ Below w.heap.size w w') : Good P f As (.val v) := by
  subst hA
  intro K w cargs hok hlen hrep
  have e : cargs = args := by
    apply List.ext_getElem?
    intro i
    by_cases hi : i < args.length
    · have hi' : i < cargs.length := by rw [hlen]; simpa using hi
      have := hrep i (.val args[i]) cargs[i] (by simp [List.getElem?_eq_getElem hi]) (List.getElem?_eq_getElem hi')
      rw [List.getElem?_eq_getElem hi, List.getElem?_eq_getElem hi']
      exact congrArg some this
    · have hlen' : cargs.length = args.length := by simpa using hlen
      rw [List.getElem?_eq_none (by omega), List.getElem?_eq_none (by omega)]
  subst e
  refine (h w).mono ?_
  rintro e w' ⟨rfl, hb⟩
  exact ⟨v, K, rfl, hb, Know.le_refl K, Know.below hok hb, fun _ _ _ h _ => h, fun _ => undef, rfl, fun r e k xs h => (by rcases h with h | ⟨_, h, _⟩ <;> cases h), fun r e k xs r' e' k' xs' g h => (by rcases h with h | ⟨_, h, _⟩ <;> cases h)⟩
theorem no_row_tup {vs : List Value} {r e k : Nat} {xs : Cells} (h : (AV.row r e k xs).of (.tup (vs.map AV.val))) : False := by
  rcases h with h | ⟨us, h, hm⟩
  · cases h
  · injection h with h; subst h; exact vals_row _ hm
theorem Good.sl1 {α : Type} {enc : α → List Value} {k : Nat} {xs : List α} {args : List Value} {As : List AV} {v : Value} (hpos : ∀ x, enc x ≠ []) (hA : As = args.map AV.val)
    (h : ∀ A c w, xs.length ≤ c → (A = none → c = 0) → Reads enc k w A xs → Calls P f (.slice A xs.length c :: args).toArray w fun e w' => e = .returned v ∧ Below w.heap.size w w') : Good P f (.sl k (xs.map enc) :: As) (.val v) := by
  subst hA
  intro K w cargs hok hlen hrep
  match cargs, hlen, hrep with
  | c :: cargs, hlen, hrep =>
    obtain ⟨A, cap, e0, h1, h2, h3⟩ := hrep 0 _ c rfl rfl
    have e : cargs = args := by
      apply List.ext_getElem?
      intro i
      by_cases hi : i < args.length
      · have hi' : i < cargs.length := by simp at hlen; omega
        have := hrep (i + 1) (.val args[i]) cargs[i] (by simp [List.getElem?_eq_getElem hi]) (by simp [List.getElem?_eq_getElem hi'])
        rw [List.getElem?_eq_getElem hi, List.getElem?_eq_getElem hi']
        exact congrArg some this
      · have hlen' : cargs.length = args.length := by simpa using hlen
        rw [List.getElem?_eq_none (by omega), List.getElem?_eq_none (by omega)]
    subst e e0
    simp only [List.length_map] at h1 ⊢
    refine (h A cap w h1 h2 (h3.reads hok hpos)).mono ?_
    rintro e w' ⟨rfl, hb⟩
    exact ⟨v, K, rfl, hb, Know.le_refl K, Know.below hok hb, fun _ _ _ h _ => h, fun _ => undef, rfl, fun r e k xs h => (by rcases h with h | ⟨_, h, _⟩ <;> cases h), fun r e k xs r' e' k' xs' g h => (by rcases h with h | ⟨_, h, _⟩ <;> cases h)⟩
theorem own_res {K : Know} {w w' : World} {e k : Nat} {v : Value} {xs : Cells} (hok : K.ok w) (hb : Below w.heap.size w w') (hown : w'.ownsRow w.heap.size e k v xs.length xs.flatten) (hlen : ∀ x ∈ xs, x.length = k) (hone : oneCells xs = true) (r : Nat) :
    ∃ K', K.le K' ∧ K'.ok w' ∧ (∀ b o u, K' b o = some u → b < w.heap.size → K b o = some u) ∧ Res K' w w' (.row r e k xs) v := by
  let K' : Know := fun b o => if v.ownBlock = some b then xs.flatten[o]? else K b o
  have hge : ∀ g, v.ownBlock = some g → w.heap.size ≤ g := fun g hg => (hown.lt g hg).1
  refine ⟨K', fun b o u hu => ?_, fun b o u hu => ?_, fun b o u hu hlt => ?_, fun _ => v, ⟨rfl, own_slice hown (fun g hg o u hu => ?_) hlen hone⟩, fun r' e' k' xs' h => ?_, fun r1 e1 k1 xs1 r2 e2 k2 xs2 g h1 h2 _ _ => ?_⟩
  · have := Know.lt hok hu
    simp only [K']
    rw [if_neg (fun h => by have := hge b h; omega)]
    exact hu
  · simp only [K'] at hu
    split at hu
    · rename_i h
      have := hown.cells h o u hu
      rwa [Addr.add_mid, Nat.zero_add] at this
    · exact Know.below hok hb b o u hu
  · simp only [K'] at hu
    rwa [if_neg (fun h => by have := hge b h; omega)] at hu
  · simp only [K', if_pos hg]; exact hu
  · rcases h with h | ⟨_, h, _⟩
    · injection h with q1 q2 q3 q4
      subst q1 q2 q3 q4
      refine ⟨hown, fun g hg o u hu => ?_⟩
      simp only [K', if_pos hg] at hu
      have := (List.getElem?_eq_some_iff.1 hu).1
      rwa [hown.1] at this
    · cases h
  · rcases h1 with h1 | ⟨_, h1, _⟩
    · rcases h2 with h2 | ⟨_, h2, _⟩
      · injection h1 with q1; injection h2 with q2; exact q1.symm.trans q2
      · cases h2
    · cases h1
theorem Good.slRow {α β : Type} {enc : α → List Value} {enc' : β → List Value} {k k' e : Nat} {xs : List α} {ys : List β} (hpos : ∀ x, enc x ≠ []) (hk : ∀ y, (enc' y).length = k') (h1 : ∀ y, ∀ u ∈ enc' y, u.oneCell' = true) {args : List Value} {As : List AV} (hA : As = args.map AV.val)
    (h : ∀ A c w, xs.length ≤ c → (A = none → c = 0) → Reads enc k w A xs → Calls P f (.slice A xs.length c :: args).toArray w fun e' w' => ∃ v, e' = .returned v ∧ w'.ownsRow w.heap.size e k' v ys.length (ys.flatMap enc') ∧ Below w.heap.size w w') : Good P f (.sl k (xs.map enc) :: As) (.row 0 e k' (ys.map enc')) := by
  subst hA
  intro K w cargs hok hlen hrep
  match cargs, hlen, hrep with
  | c :: cargs, hlen, hrep =>
    obtain ⟨A, cap, e0, q1, q2, q3⟩ := hrep 0 _ c rfl rfl
    have e : cargs = args := by
      apply List.ext_getElem?
      intro i
      by_cases hi : i < args.length
      · have hi' : i < cargs.length := by simp at hlen; omega
        have := hrep (i + 1) (.val args[i]) cargs[i] (by simp [List.getElem?_eq_getElem hi]) (by simp [List.getElem?_eq_getElem hi'])
        rw [List.getElem?_eq_getElem hi, List.getElem?_eq_getElem hi']
        exact congrArg some this
      · have hlen' : cargs.length = args.length := by simpa using hlen
        rw [List.getElem?_eq_none (by omega), List.getElem?_eq_none (by omega)]
    subst e e0
    simp only [List.length_map] at q1 ⊢
    refine (h A cap w q1 q2 (q3.reads hok hpos)).mono ?_
    rintro e w' ⟨v, rfl, hown, hb⟩
    obtain ⟨K', p1, p2, p3, p4⟩ := own_res (xs := ys.map enc') hok hb (by rw [List.length_map, ← List.flatMap_def]; exact hown) (fun x hx => by obtain ⟨y, _, rfl⟩ := List.mem_map.1 hx; exact hk y) (List.all_eq_true.2 fun x hx => by obtain ⟨y, _, rfl⟩ := List.mem_map.1 hx; exact List.all_eq_true.2 (h1 y)) 0
    exact ⟨v, K', rfl, hb, p1, p2, p3, p4⟩
theorem Good.calls {As : List AV} {v : Value} (h : Good P f As (.val v)) (w : World) (cargs : List Value) (hl : cargs.length = As.length) (hr : ∀ (i : Nat) A c, As[i]? = some A → cargs[i]? = some c → Rep1 (snap w) Nm.nil A c) :
    Calls P f cargs.toArray w fun e w' => e = .returned v ∧ Below w.heap.size w w' := by
  refine (h (snap w) w cargs (snap_ok w) hl hr).mono ?_
  rintro e w' ⟨c, K', rfl, hb, _, _, _, ρ, h5, _⟩
  exact ⟨by rw [show c = v from h5], hb⟩
inductive ArgsR (w : World) : List AV → List Value → Prop
  | nil : ArgsR w [] []
  | val {v As cs} (h : ArgsR w As cs) : ArgsR w (.val v :: As) (v :: cs)
  | sl {α : Type} {enc : α → List Value} {k : Nat} {xs : List α} {A c As cs} (h1 : xs.length ≤ c) (h2 : A = none → c = 0) (h3 : Reads enc k w A xs) (h4 : ∀ x, (enc x).length = k) (h5 : ∀ x, ∀ u ∈ enc x, u.oneCell' = true) (h : ArgsR w As cs) : ArgsR w (.sl k (xs.map enc) :: As) (.slice A xs.length c :: cs)
theorem ArgsR.rep {w : World} : ∀ {As : List AV} {cs : List Value}, ArgsR w As cs → cs.length = As.length ∧ ∀ (i : Nat) A c, As[i]? = some A → cs[i]? = some c → Rep1 (snap w) Nm.nil A c
  | _, _, .nil => ⟨rfl, fun i A c h => by simp at h⟩
  | _, _, .val h => by
    obtain ⟨h1, h2⟩ := ArgsR.rep h
    refine ⟨by simp [h1], fun i A c hA hc => ?_⟩
    cases i with
    | zero => simp at hA hc; subst hA hc; exact rfl
    | succ i => exact h2 i A c (by simpa using hA) (by simpa using hc)
  | _, _, .sl q1 q2 q3 q4 q5 h => by
    obtain ⟨h1, h2⟩ := ArgsR.rep h
    refine ⟨by simp [h1], fun i A c hA hc => ?_⟩
    cases i with
    | zero => simp at hA hc; subst hA hc; exact ⟨_, _, by rw [List.length_map], by simpa using q1, q2, q3.rd q4 q5⟩
    | succ i => exact h2 i A c (by simpa using hA) (by simpa using hc)
theorem Good.run {As : List AV} {v : Value} (h : Good P f As (.val v)) {w : World} {cs : List Value} (ha : ArgsR w As cs) : Calls P f cs.toArray w fun e w' => e = .returned v ∧ Below w.heap.size w w' :=
  h.calls w cs ha.rep.1 ha.rep.2
end

/-! ### What single operations give -/
def PB (P : Program) (op : BinOp) (xt : TypeId) (x y : Operand) (v1 v2 v : Value) : Prop := ∀ w, (do eqGuard op xt x y v1 v2; binOp op xt v1 v2 : Sem Value).run P w = .ok v w
section
variable {P : Program} {xt : TypeId} {x y : Operand} {k : IntKind} {a b : Int}
theorem pb_lss : PB P .lss xt x y (.int k a) (.int k b) (.bool (decide (a < b))) := fun w => by simp [eqGuard, binOp, Op.intCmp]
theorem pb_leq : PB P .leq xt x y (.int k a) (.int k b) (.bool (decide (a ≤ b))) := fun w => by simp [eqGuard, binOp, Op.intCmp]
theorem pb_gtr : PB P .gtr xt x y (.int k a) (.int k b) (.bool (decide (b < a))) := fun w => by simp [eqGuard, binOp, Op.intCmp]
theorem pb_geq : PB P .geq xt x y (.int k a) (.int k b) (.bool (decide (b ≤ a))) := fun w => by simp [eqGuard, binOp, Op.intCmp]
theorem pb_eql : PB P .eql xt x y (.int k a) (.int k b) (.bool (decide (a = b))) := fun w => by simp [eqGuard, binOp, Op.intCmp]; exact Bool.eq_iff_iff.2 (by simp)
theorem pb_neq : PB P .neq xt x y (.int k a) (.int k b) (.bool (!decide (a = b))) := fun w => by simp [eqGuard, binOp, Op.intCmp]; exact Bool.eq_iff_iff.2 (by simp)
theorem pb_of {op : BinOp} {v1 v2 : Value} {c d : Bool} (h : PB P op xt x y v1 v2 (.bool c)) (e : c = d) : PB P op xt x y v1 v2 (.bool d) := e ▸ h
theorem pb_lss_t (h : a < b) : PB P .lss xt x y (.int k a) (.int k b) (.bool true) := pb_of pb_lss (by simpa using h)
theorem pb_lss_f (h : ¬ a < b) : PB P .lss xt x y (.int k a) (.int k b) (.bool false) := pb_of pb_lss (by simpa using h)
theorem pb_leq_t (h : a ≤ b) : PB P .leq xt x y (.int k a) (.int k b) (.bool true) := pb_of pb_leq (by simpa using h)
theorem pb_leq_f (h : ¬ a ≤ b) : PB P .leq xt x y (.int k a) (.int k b) (.bool false) := pb_of pb_leq (by simpa using h)
theorem pb_gtr_t (h : b < a) : PB P .gtr xt x y (.int k a) (.int k b) (.bool true) := pb_of pb_gtr (by simpa using h)
theorem pb_gtr_f (h : ¬ b < a) : PB P .gtr xt x y (.int k a) (.int k b) (.bool false) := pb_of pb_gtr (by simpa using h)
theorem pb_geq_t (h : b ≤ a) : PB P .geq xt x y (.int k a) (.int k b) (.bool true) := pb_of pb_geq (by simpa using h)
theorem pb_geq_f (h : ¬ b ≤ a) : PB P .geq xt x y (.int k a) (.int k b) (.bool false) := pb_of pb_geq (by simpa using h)
theorem pb_eql_t (h : a = b) : PB P .eql xt x y (.int k a) (.int k b) (.bool true) := pb_of pb_eql (by simpa using h)
theorem pb_eql_f (h : ¬ a = b) : PB P .eql xt x y (.int k a) (.int k b) (.bool false) := pb_of pb_eql (by simpa using h)
theorem pb_neq_t (h : ¬ a = b) : PB P .neq xt x y (.int k a) (.int k b) (.bool true) := pb_of pb_neq (by simpa using h)
theorem pb_neq_f (h : a = b) : PB P .neq xt x y (.int k a) (.int k b) (.bool false) := pb_of pb_neq (by simpa using h)
theorem pb_addw : PB P .add xt x y (.int k a) (.int k b) (.int k (k.wrap (a + b))) := fun w => by simp [eqGuard, binOp, Op.intArith]
theorem pb_subw : PB P .sub xt x y (.int k a) (.int k b) (.int k (k.wrap (a - b))) := fun w => by simp [eqGuard, binOp, Op.intArith]
theorem pb_mulw : PB P .mul xt x y (.int k a) (.int k b) (.int k (k.wrap (a * b))) := fun w => by simp [eqGuard, binOp, Op.intArith]
theorem pb_add (h : -9223372036854775808 ≤ a + b ∧ a + b ≤ 9223372036854775807) : PB P .add xt x y (.int .i64 a) (.int .i64 b) (.int .i64 (a + b)) := by
  have := @pb_addw P xt x y .i64 a b
  rwa [IntWalk.i64_in _ h] at this
theorem pb_addN {n m l : Nat} (hl : n + m = l) (h : n + m ≤ 9223372036854775807) : PB P .add xt x y (.int .i64 (n : Int)) (.int .i64 (m : Int)) (.int .i64 (l : Int)) := by
  subst hl
  have := @pb_add P xt x y (n : Int) (m : Int) (by omega)
  rw [Int.natCast_add]; exact this
theorem pb_inc {n : Nat} (h : n + 1 ≤ 9223372036854775807) : PB P .add xt x y (.int .i64 (n : Int)) (.int .i64 1) (.int .i64 ((n + 1 : Nat) : Int)) := by
  have := @pb_add P xt x y (n : Int) 1 (by omega)
  rw [Int.natCast_add]; exact this
theorem pb_sub (h : -9223372036854775808 ≤ a - b ∧ a - b ≤ 9223372036854775807) : PB P .sub xt x y (.int .i64 a) (.int .i64 b) (.int .i64 (a - b)) := by
  have := @pb_subw P xt x y .i64 a b
  rwa [IntWalk.i64_in _ h] at this
theorem pb_mul (h : -9223372036854775808 ≤ a * b ∧ a * b ≤ 9223372036854775807) : PB P .mul xt x y (.int .i64 a) (.int .i64 b) (.int .i64 (a * b)) := by
  have := @pb_mulw P xt x y .i64 a b
  rwa [IntWalk.i64_in _ h] at this
theorem pb_neqB {c d : Bool} (hu : P.underlying xt = some .bool) : PB P .neq xt x y (.bool c) (.bool d) (.bool (!(c == d))) := fun w => run_neq_bool w xt c d hu
theorem pb_agg {op : BinOp} {u v : Array Value} {r : Value} (hg : P.eqGuardType P.depth xt = false) (h : ∀ w, (binOp op xt (.agg u) (.agg v)).run P w = .ok r w) : PB P op xt x y (.agg u) (.agg v) r := fun w => by
  have e : (eqGuard op xt x y (.agg u) (.agg v)).run P w = .ok () w := by
    cases op <;> simp [eqGuard, hg]
  rw [Sem.run_bind, e]
  exact h w
theorem un_not {c : Bool} (w : World) : (Op.unary .not (.bool c)).run P w = .ok (.bool (!c)) w := by simp [Op.unary]
theorem un_neg {n : Int} (h : -9223372036854775807 ≤ n ∧ n ≤ 9223372036854775807) (w : World) : (Op.unary .neg (.int .i64 n)).run P w = .ok (.int .i64 (-n)) w := by
  simp only [Op.unary, Op.intArith]
  rw [IntWalk.i64_in _ (by omega)]
  simp
end
end Go.Proofs.YtjmnnkhdadoehaaGreat
namespace Go.Proofs.YtjmnnkhdadoehaaGreat
set_option linter.unusedSimpArgs false
set_option linter.unusedVariables false
open Go Go.RowKit Go.Shelf

def AV.noRow : AV → Bool
  | .row _ _ _ _ | .tup _ | .arow _ | .aptr _ _ _ _ | .asub _ _ _ _ => false
  | _ => true
def AV.aname : AV → Option Nat
  | .arow d => some d
  | .aptr d _ _ _ => some d
  | .asub d _ _ _ => some d
  | _ => none
def hasA (ar : List (Nat × Arr)) (d : Nat) : Bool := ar.any fun p => Nat.beq p.1 d
inductive Less (ar : List (Nat × Arr)) (B : AV) : AV → Prop
  | aref {A d} (h : B = A) (hA : A.aname = some d) (hm : hasA ar d = true) : Less ar B A
  | keep {A} (h : B = A) (hn : A.noRow = true) : Less ar B A
  | val {v v'} (h : B = .val v) (e : v = v') : Less ar B (.val v')
  | dead : Less ar B .dead
  | sl {A k xs xs'} (h : B = A) (hA : A.Sl k xs) (e : xs = xs') : Less ar B (.sl k xs')
  | slNil {k xs'} (h : B = .val (.slice none 0 0)) (e : [] = xs') : Less ar B (.sl k xs')
theorem Less.no {ar : List (Nat × Arr)} {B A : AV} (h : Less ar B A) : (∀ r e k xs, A ≠ .row r e k xs) ∧ ∀ vs, A ≠ .tup vs := by
  cases h with
  | aref h hA hm => subst h; constructor <;> (intros; intro e; subst e; cases hA)
  | keep h hn => subst h; constructor <;> (intros; intro e; subst e; cases hn)
  | _ => constructor <;> (intros; intro e; cases e)
theorem Less.rep {ar : List (Nat × Arr)} {K : Know} {n n' : Nm} {B A : AV} {c : Value} (h : Less ar B A) (hβ : n'.β = n.β) (hρ : ∀ d, hasA ar d = true → n'.ρ d = n.ρ d) (hr : Rep K n B c) : Rep K n' A c := by
  obtain ⟨β, ρ⟩ := n
  obtain ⟨β', ρ'⟩ := n'
  simp only at hβ
  subst hβ
  cases h with
  | aref h hA hm =>
    rename_i d
    subst h
    cases B with
    | arow d' => injection hA with hA; subst hA; show c = ρ' d'; rw [show ρ' d' = ρ d' from hρ d' hm]; exact hr
    | aptr d' k j o =>
      injection hA with hA; subst hA
      obtain ⟨g, h1, h2⟩ := hr
      exact ⟨g, by rw [hρ d' hm]; exact h1, h2⟩
    | asub d' k lo m =>
      injection hA with hA; subst hA
      obtain ⟨A, l, cap, h1, h2⟩ := hr
      exact ⟨A, l, cap, by rw [hρ d' hm]; exact h1, h2⟩
    | _ => cases hA
  | keep h hn =>
    subst h
    cases B <;> first | exact hr | cases hn
  | val h e => subst h e; exact hr
  | dead => trivial
  | sl h hA e => subst h e; exact hA.slice hr
  | slNil h e => subst h e; exact ⟨none, 0, hr, Nat.le_refl _, fun _ => rfl, Rd.nil_⟩
inductive Relab (ar : List (Nat × Arr)) (S : St) : List Nat → List (Nat × AV) → Prop
  | nil {us} : Relab ar S us []
  | other {us t A l} (h : Less ar (S.get t) A) (hl : Relab ar S us l) : Relab ar S us ((t, A) :: l)
  | row {us t r e k xs xs' l} (h : S.get t = .row r e k xs) (hx : xs = xs') (hr : us.contains r = false) (hn : hasA ar t = false) (hl : Relab ar S (r :: us) l) : Relab ar S us ((t, .row t e k xs') :: l)
  | rowNil {us t e k xs' l} (h : S.get t = .val (.slice none 0 0)) (hx : [] = xs') (hn : hasA ar t = false) (hl : Relab ar S us l) : Relab ar S us ((t, .row t e k xs') :: l)
def Nm.anew (n : Nm) (a : Act) (ar : List (Nat × Arr)) : Nm := ⟨n.β, fun t => cond (hasA ar t) (n.ρ t) (a.tmps.getD t undef)⟩
theorem Nm.anew_a {n : Nm} {a : Act} {ar : List (Nat × Arr)} {d : Nat} (h : hasA ar d = true) : (n.anew a ar).ρ d = n.ρ d := by simp [Nm.anew, h]
theorem Nm.anew_t {n : Nm} {a : Act} {ar : List (Nat × Arr)} {d : Nat} (h : hasA ar d = false) : (n.anew a ar).ρ d = a.tmps.getD d undef := by simp [Nm.anew, h]
section
variable {P : Program} {N : Nat} {K0 : Know} {w0 : Bas} {S S' : St} {K : Know} {n : Nm} {a : Act} {w : World} {ar : List (Nat × Arr)}
theorem Relab.rep (hs : Sim N K0 w0 S K n a w) : ∀ {us : List Nat} {l : List (Nat × AV)}, Relab ar S us l → ∀ t A, (t, A) ∈ l → Rep K (n.anew a ar) A (a.tmps.getD t undef)
  | _, _, .nil, t, A, h => by simp at h
  | _, _, .other h hl, t, A, hm => by
    rcases List.mem_cons.1 hm with e | hm
    · injection e with e1 e2
      subst e1 e2
      exact h.rep (n := n) rfl (fun d hd => Nm.anew_a hd) (hs.tmp t)
    · exact Relab.rep hs hl t A hm
  | _, _, .row h hx hr hn hl, t, A, hm => by
    rcases List.mem_cons.1 hm with e1 | hm
    · injection e1 with e1 e2
      subst e1 e2 hx
      have := hs.tmp t
      rw [h] at this
      exact ⟨(Nm.anew_t hn).symm, this.2⟩
    · exact Relab.rep hs hl t A hm
  | _, _, .rowNil h hx hn hl, t, A, hm => by
    rcases List.mem_cons.1 hm with e1 | hm
    · injection e1 with e1 e2
      subst e1 e2 hx
      have := hs.tmp t
      rw [h] at this
      exact ⟨(Nm.anew_t hn).symm, none, 0, this, Nat.le_refl _, fun _ => rfl, Rd.nil_⟩
    · exact Relab.rep hs hl t A hm
theorem Relab.rows : ∀ {us : List Nat} {l : List (Nat × AV)}, Relab ar S us l → ∀ t r e k xs, (t, AV.row r e k xs) ∈ l → (hasA ar t = false ∧ r = t) ∧ ((∃ r', ¬ r' ∈ us ∧ S.get t = .row r' e k xs) ∨ (S.get t = .val (.slice none 0 0) ∧ xs = []))
  | _, _, .nil, t, r, e, k, xs, h => by simp at h
  | _, _, .other h hl, t, r, e, k, xs, hm => by
    rcases List.mem_cons.1 hm with e1 | hm
    · injection e1 with e1 e2; exact absurd e2.symm (h.no.1 _ _ _ _)
    · exact Relab.rows hl t r e k xs hm
  | _, _, .row h hx hr hn hl, t, r, e, k, xs, hm => by
    rcases List.mem_cons.1 hm with e1 | hm
    · injection e1 with e1 e2
      injection e2 with e2 e3 e4 e5
      subst e1 e2 e3 e4 e5 hx
      exact ⟨⟨hn, rfl⟩, .inl ⟨_, by simpa using hr, h⟩⟩
    · obtain ⟨h1, h2⟩ := Relab.rows hl t r e k xs hm
      exact ⟨h1, h2.imp (fun ⟨r', h3, h4⟩ => ⟨r', fun hm => h3 (List.mem_cons_of_mem _ hm), h4⟩) id⟩
  | _, _, .rowNil h hx hn hl, t, r, e, k, xs, hm => by
    rcases List.mem_cons.1 hm with e1 | hm
    · injection e1 with e1 e2
      injection e2 with e2 e3 e4 e5
      subst e1 e2 e3 e4 e5 hx
      exact ⟨⟨hn, rfl⟩, .inr ⟨h, rfl⟩⟩
    · exact Relab.rows hl t r e k xs hm
theorem Relab.inj : ∀ {us : List Nat} {l : List (Nat × AV)}, Relab ar S us l → ∀ t t' r e k xs e' k' xs', (t, AV.row t e k xs) ∈ l → (t', AV.row t' e' k' xs') ∈ l → S.get t = .row r e k xs → S.get t' = .row r e' k' xs' → t = t'
  | _, _, .nil, t, t', r, e, k, xs, e', k', xs', h, _, _, _ => by simp at h
  | _, _, .other h hl, t, t', r, e, k, xs, e', k', xs', m1, m2, g1, g2 => by
    rcases List.mem_cons.1 m1 with q1 | m1
    · injection q1 with _ q1; exact absurd q1.symm (h.no.1 _ _ _ _)
    · rcases List.mem_cons.1 m2 with q2 | m2
      · injection q2 with _ q2; exact absurd q2.symm (h.no.1 _ _ _ _)
      · exact Relab.inj hl t t' r e k xs e' k' xs' m1 m2 g1 g2
  | us0, _, .row (t := t0) (r := r0) (l := l0) h hx hr hn hl, t, t', r, e, k, xs, e', k', xs', m1, m2, g1, g2 => by
    have key : ∀ u e2 k2 xs2, (u, AV.row u e2 k2 xs2) ∈ l0 → S.get u = .row r0 e2 k2 xs2 → False := fun u e2 k2 xs2 hm hg => by
      obtain ⟨_, h1 | ⟨h1, _⟩⟩ := Relab.rows hl u u e2 k2 xs2 hm
      · obtain ⟨r', h2, h3⟩ := h1
        rw [hg] at h3
        injection h3 with h3
        exact h2 (by rw [← h3]; exact List.mem_cons_self)
      · rw [hg] at h1; cases h1
    rcases List.mem_cons.1 m1 with q1 | p1 <;> rcases List.mem_cons.1 m2 with q2 | p2
    · injection q1 with q1; injection q2 with q2; exact q1.trans q2.symm
    · injection q1 with q1 _
      rw [q1, h] at g1
      injection g1 with g1
      rw [← g1] at g2
      exact (key _ _ _ _ p2 g2).elim
    · injection q2 with q2 _
      rw [q2, h] at g2
      injection g2 with g2
      rw [← g2] at g1
      exact (key _ _ _ _ p1 g1).elim
    · exact Relab.inj hl t t' r e k xs e' k' xs' p1 p2 g1 g2
  | _, _, .rowNil h hx hn hl, t, t', r, e, k, xs, e', k', xs', m1, m2, g1, g2 => by
    rcases List.mem_cons.1 m1 with q1 | m1
    · injection q1 with q1 _; subst q1; rw [h] at g1; cases g1
    · rcases List.mem_cons.1 m2 with q2 | m2
      · injection q2 with q2 _; subst q2; rw [h] at g2; cases g2
      · exact Relab.inj hl t t' r e k xs e' k' xs' m1 m2 g1 g2
inductive KeepB (ar : List (Nat × Arr)) (S : St) : List (Nat × List AV) → Prop
  | nil : KeepB ar S []
  | cons {d cs cs' l} (h : getB S.boxes d = some cs) (hl : cs.length = cs'.length) (hc : ∀ (i : Nat) c c', cs[i]? = some c → cs'[i]? = some c' → Less ar c c') (hn : l.all (fun p => !(Nat.beq p.1 d)) = true) (t : KeepB ar S l) : KeepB ar S ((d, cs') :: l)
theorem KeepB.spec : ∀ {l : List (Nat × List AV)}, KeepB ar S l → (∀ d cs', (d, cs') ∈ l → ∃ cs, (d, cs) ∈ S.boxes ∧ cs.length = cs'.length ∧ ∀ (i : Nat) c c', cs[i]? = some c → cs'[i]? = some c' → Less ar c c') ∧ ∀ d c c', (d, c) ∈ l → (d, c') ∈ l → c = c'
  | _, .nil => ⟨fun d cs h => by simp at h, fun d c c' h => by simp at h⟩
  | _, @KeepB.cons _ _ d0 cs0 cs0' l0 h hl hc hn t => by
    obtain ⟨h1, h2⟩ := KeepB.spec t
    have hne : ∀ d' (c' : List AV), (d', c') ∈ l0 → d' ≠ d0 := fun d' c' hm e => by
      have := List.all_eq_true.1 hn _ hm
      rw [e] at this
      simp at this
    refine ⟨fun d cs' hm => ?_, fun d c c' m1 m2 => ?_⟩
    · rcases List.mem_cons.1 hm with e | hm
      · injection e with e1 e2; subst e1 e2; exact ⟨_, getB_mem h, hl, hc⟩
      · exact h1 d cs' hm
    · rcases List.mem_cons.1 m1 with e1 | p1 <;> rcases List.mem_cons.1 m2 with e2 | p2
      · injection e1 with _ e1; injection e2 with _ e2; exact e1.trans e2.symm
      · injection e1 with e1 _; exact absurd e1 (hne _ _ p2)
      · injection e2 with e2 _; exact absurd e2 (hne _ _ p1)
      · exact h2 d c c' p1 p2
theorem getT_in : ∀ (l : List (Nat × AV)) (t : Nat), getT l t = .dead ∨ (t, getT l t) ∈ l
  | [], _ => .inl rfl
  | (s, A) :: l, t => by
    simp only [getT]
    cases hb : Nat.beq s t with
    | true => have := Nat.eq_of_beq_eq_true hb; subst this; exact .inr List.mem_cons_self
    | false => rcases getT_in l t with h | h
               · exact .inl h
               · exact .inr (List.mem_cons_of_mem _ h)
theorem St.of_get {l : List (Nat × AV)} {bs : List (Nat × List AV)} {t r e k : Nat} {xs : Cells} (hn : ∀ t vs, (t, AV.tup vs) ∉ l) (h : (AV.row r e k xs).of (getT l t)) : (t, AV.row r e k xs) ∈ l := by
  rcases getT_in l t with h1 | h1
  · rw [h1] at h; rcases h with h | ⟨_, h, _⟩ <;> cases h
  · rcases h with h | ⟨vs, h, _⟩
    · rw [h] at h1; exact h1
    · rw [h] at h1; exact absurd h1 (hn _ _)
theorem Relab.noTup : ∀ {us : List Nat} {l : List (Nat × AV)}, Relab ar S us l → ∀ t vs, (t, AV.tup vs) ∉ l
  | _, _, .nil, t, vs, h => by simp at h
  | _, _, .other h hl, t, vs, hm => by
    rcases List.mem_cons.1 hm with e | hm
    · injection e with _ e; exact h.no.2 _ e.symm
    · exact Relab.noTup hl t vs hm
  | _, _, .row h hx hr hn hl, t, vs, hm => by
    rcases List.mem_cons.1 hm with e | hm
    · injection e with _ e; cases e
    · exact Relab.noTup hl t vs hm
  | _, _, .rowNil h hx hn hl, t, vs, hm => by
    rcases List.mem_cons.1 hm with e | hm
    · injection e with _ e; cases e
    · exact Relab.noTup hl t vs hm
def getA : List (Nat × Arr) → Nat → Option Arr
  | [], _ => none
  | (s, A) :: l, t => cond (Nat.beq s t) (some A) (getA l t)
theorem getA_mem : ∀ {l : List (Nat × Arr)} {t : Nat} {A : Arr}, getA l t = some A → (t, A) ∈ l
  | [], _, _, h => by cases h
  | (s, B) :: l, t, A, h => by
    simp only [getA] at h
    cases hb : Nat.beq s t with
    | true => rw [hb] at h; injection h with h; subst h; rw [Nat.eq_of_beq_eq_true hb]; exact List.mem_cons_self
    | false => rw [hb] at h; exact List.mem_cons_of_mem _ (getA_mem h)
inductive KeepA (S : St) : List (Nat × Arr) → Prop
  | nil : KeepA S []
  | cons {d e k xs xs' l} (h : getA S.arrs d = some ⟨e, k, xs⟩) (hx : xs = xs') (t : KeepA S l) : KeepA S ((d, ⟨e, k, xs'⟩) :: l)
theorem KeepA.mem : ∀ {l : List (Nat × Arr)}, KeepA S l → ∀ d A, (d, A) ∈ l → (d, A) ∈ S.arrs
  | _, .nil, d, A, h => by simp at h
  | _, .cons h hx t, d, A, hm => by
    subst hx
    rcases List.mem_cons.1 hm with e | hm
    · injection e with e1 e2; subst e1 e2; exact getA_mem h
    · exact KeepA.mem t d A hm
theorem hasA_mem {l : List (Nat × Arr)} {d : Nat} {A : Arr} (h : (d, A) ∈ l) : hasA l d = true := List.any_eq_true.2 ⟨_, h, by simp⟩
theorem Sim.relab (h : Sim N K0 w0 S K n a w) {l : List (Nat × AV)} {us : List Nat} {bs : List (Nat × List AV)} (hl : Relab ar S us l) (hb : KeepB ar S bs) (hk : KeepA S ar) : Sim N K0 w0 ⟨l, bs, ar⟩ K (n.anew a ar) a w := by
  obtain ⟨hb1, hb2⟩ := hb.spec
  have hhas : ∀ r e k xs, (⟨l, bs, ar⟩ : St).has (.row r e k xs) → (r, AV.row r e k xs) ∈ l := by
    intro r e k xs hr
    rcases hr with ⟨t, ht⟩ | ⟨d, cs', hd, hm⟩
    · have := St.of_get (bs := bs) hl.noTup ht
      obtain ⟨⟨_, h1⟩, _⟩ := Relab.rows hl t r e k xs this
      rw [← h1] at this
      exact this
    · obtain ⟨cs, _, hlen, hc⟩ := hb1 d cs' hd
      obtain ⟨i, hi, e1⟩ := List.getElem_of_mem hm
      have := hc i _ _ (List.getElem?_eq_getElem (by omega)) (List.getElem?_eq_getElem hi)
      rw [e1] at this
      exact absurd rfl (this.no.1 _ _ _ _)
  have hown : ∀ t e k xs, (t, AV.row t e k xs) ∈ l → (n.anew a ar).ρ t = a.tmps.getD t undef ∧ w.ownsRow w0.w.heap.size e k (a.tmps.getD t undef) xs.length xs.flatten ∧ ∀ g, (a.tmps.getD t undef).ownBlock = some g → ∃ r, S.get t = .row r e k xs ∧ (n.ρ r).ownBlock = some g ∧ a.tmps.getD t undef = n.ρ r := by
    intro t e k xs hm
    obtain ⟨⟨hna, _⟩, ⟨r', hr', hg⟩ | ⟨hg, rfl⟩⟩ := Relab.rows hl t t e k xs hm
    · have h1 := h.tmp t
      rw [hg] at h1
      have h2 := h.row r' e k xs (.inl ⟨t, .inl hg⟩)
      refine ⟨Nm.anew_t hna, ?_⟩
      rw [h1.1]
      exact ⟨h2.1, fun g hg' => ⟨r', hg, hg', rfl⟩⟩
    · have h1 := h.tmp t
      rw [hg] at h1
      refine ⟨Nm.anew_t hna, ?_⟩
      rw [show a.tmps.getD t undef = .slice none 0 0 from h1]
      exact ⟨World.ownsRow_nil w _ e k, fun g hg' => by cases hg'⟩
  exact {
    size := h.size
    defers := h.defers
    below := h.below
    k0 := h.k0
    knew := h.knew
    ok := h.ok
    tmp := fun t => by
      rcases getT_in l t with h1 | h1
      · show Rep K _ (getT l t) _
        rw [h1]; trivial
      · exact Relab.rep h hl t _ h1
    box := fun d cs' hd => by
      obtain ⟨cs, h1, hlen, hc⟩ := hb1 d cs' hd
      obtain ⟨b, arr, ty, q1, q2, q3, q4, q5, q6⟩ := h.box d cs h1
      refine ⟨b, arr, ty, q1, q2, q3, q4.trans hlen, fun i c hi => ?_, q6⟩
      have hi' : i < cs.length := by rw [hlen]; exact (List.getElem?_eq_some_iff.1 hi).1
      have h2 := hc i _ c (List.getElem?_eq_getElem hi') hi
      have h3 := h2.rep (n := n) (n' := n.anew a ar) rfl (fun d hd => Nm.anew_a hd) (Rep.of1 (q5 i _ (List.getElem?_eq_getElem hi')))
      have h4 := h2.no.2
      cases c <;> first | exact h3 | exact absurd rfl (h4 _)
    boxInj := fun d c d' c' b m1 m2 => by
      obtain ⟨c1, q1, _⟩ := hb1 d c m1
      obtain ⟨c2, q2, _⟩ := hb1 d' c' m2
      exact h.boxInj d c1 d' c2 b q1 q2
    boxOne := hb2
    row := fun r e k xs hr => by
      obtain ⟨q0, q1, q2⟩ := hown r e k xs (hhas r e k xs hr)
      rw [q0]
      refine ⟨q1, fun g hg => ?_⟩
      obtain ⟨r', p1, p2, p3⟩ := q2 g hg
      obtain ⟨u1, u2⟩ := h.row r' e k xs (.inl ⟨r, .inl p1⟩)
      refine ⟨(u2 g p2).1, fun d cs' hd => ?_⟩
      obtain ⟨cs, h1, _⟩ := hb1 d cs' hd
      exact (u2 g p2).2 d cs h1
    rowInj := fun r e k xs r' e' k' xs' g h1 h2 g1 g2 => by
      have m1 := hhas r e k xs h1
      have m2 := hhas r' e' k' xs' h2
      obtain ⟨z1, _, q1⟩ := hown r e k xs m1
      obtain ⟨z2, _, q2⟩ := hown r' e' k' xs' m2
      rw [z1] at g1
      rw [z2] at g2
      obtain ⟨s, p1, p2, _⟩ := q1 g g1
      obtain ⟨s', p1', p2', _⟩ := q2 g g2
      have := h.rowInj s e k xs s' e' k' xs' g (.inl ⟨r, .inl p1⟩) (.inl ⟨r', .inl p1'⟩) p2 p2'
      subst this
      exact Relab.inj hl r r' s e k xs e' k' xs' m1 m2 p1 p1'
    arr := fun d A hd => by
      obtain ⟨q1, q2, q3⟩ := h.arr d A (hk.mem d A hd)
      rw [Nm.anew_a (hasA_mem hd)]
      refine ⟨q1, q2, fun g hg => ⟨(q3 g hg).1, (q3 g hg).2.1, fun d' cs' hd' => ?_, fun r e k xs hr he => ?_⟩⟩
      · obtain ⟨cs, h1, _⟩ := hb1 d' cs' hd'
        exact (q3 g hg).2.2.1 d' cs h1
      · obtain ⟨z1, _, z2⟩ := hown r e k xs (hhas r e k xs hr)
        rw [z1] at he
        obtain ⟨s, p1, p2, _⟩ := z2 g he
        exact (q3 g hg).2.2.2 s e k xs (.inl ⟨r, .inl p1⟩) p2
    arrInj := fun d A d' A' g h1 h2 g1 g2 => by
      rw [Nm.anew_a (hasA_mem h1)] at g1
      rw [Nm.anew_a (hasA_mem h2)] at g2
      exact h.arrInj d A d' A' g (hk.mem d A h1) (hk.mem d' A' h2) g1 g2
    arrOne := fun d A A' h1 h2 => h.arrOne d A A' (hk.mem d A h1) (hk.mem d A' h2)
    fix := h.fix }
def Sub (S S' : St) : Prop := Relab S'.arrs S [] S'.tmps ∧ KeepB S'.arrs S S'.boxes ∧ KeepA S S'.arrs
theorem CT.sub {c : Code} {QE : Exit → St → Prop} (hw : Sub S S') (h : CT P N K0 w0 c S' QE) : CT P N K0 w0 c S QE := fun K n a w hs => by
  obtain ⟨h1, h2, h3⟩ := hw
  exact h K _ a w (hs.relab h1 h2 h3)
theorem LT.sub {l : List Oper} {ops : Array Oper} {Q : St → Prop} (hw : Sub S S') (h : LT P N K0 w0 ops l S' Q) : LT P N K0 w0 ops l S Q := fun K n a w hs => by
  obtain ⟨h1, h2, h3⟩ := hw
  exact h K _ a w (hs.relab h1 h2 h3)
theorem CT.loopX {α : Type} (T : α → St) (G : α → Prop) (μ : α → Nat) {c : Code} {QE : Exit → St → Prop} (x0 : α) (h0 : Sub S (T x0)) (hG : G x0)
    (h : ∀ x, G x → CT P N K0 w0 c (T x) (thenA (fun S' => ∃ x', G x' ∧ μ x' < μ x ∧ Sub S' (T x')) QE)) : CT P N K0 w0 (.loop c) S QE := by
  refine CT.sub h0 (CT.loop (fun m S' => ∃ x, G x ∧ μ x = m ∧ S' = T x) (m := μ x0) ⟨x0, hG, rfl, rfl⟩ ?_)
  rintro m S' ⟨x, hx, rfl, rfl⟩
  intro K n a w hs
  refine wp_mono (h x hx K n a w hs) ?_
  rintro e a' w' ⟨K', n', S', h1, h2⟩
  cases e with
  | normal =>
    obtain ⟨x', hx', hlt, q1, q2, q3⟩ := h1
    exact ⟨K', _, T x', ⟨_, hlt, x', hx', rfl, rfl⟩, h2.relab q1 q2 q3⟩
  | exit id => exact ⟨K', n', S', h1, h2⟩
  | goto id => exact ⟨K', n', S', h1, h2⟩
  | ret => exact ⟨K', n', S', h1, h2⟩
  | panic ch => exact ⟨K', n', S', h1, h2⟩
  | outgrown => exact ⟨K', n', S', h1, h2⟩
theorem LT.part {ops : Array Oper} {l : List Oper} {Q : St → Prop} {t : Nat} {c : Bool} (h : S.get t = .val (.bool c)) (ht : c = true → LT P N K0 w0 ops l (S.put t (.val (.bool true))) Q) (hf : c = false → LT P N K0 w0 ops l (S.put t (.val (.bool false))) Q) : LT P N K0 w0 ops l S Q := by
  intro K n a w hs
  have e : ∀ b, c = b → Sim N K0 w0 (S.put t (.val (.bool b))) K n a w := fun b hb => hs.weak ⟨⟨fun u => by
    rw [St.get_put]
    split
    · rename_i h1; subst h1; rw [h, hb]; exact .inl (.inl rfl)
    · exact .inl (.inl rfl), fun d A h => h⟩, fun d cs' hd => ⟨cs', hd, rfl, fun i c c' h1 h2 => by rw [h1] at h2; injection h2 with h2; exact .inl h2.symm⟩⟩ hs.boxOne
  cases c with
  | true => exact ht rfl K n a w (e true rfl)
  | false => exact hf rfl K n a w (e false rfl)
theorem HT.weak {ops : Array Oper} : ∀ {l : List Oper} {S S' : St} {Q : St → Prop}, (∀ t, S'.get t = S.get t) → S'.mem = S.mem → (∀ T T' : St, (∀ t, T'.get t = T.get t) → T'.mem = T.mem → Q T' → Q T) → HT P N K0 w0 ops l S' Q → HT P N K0 w0 ops l S Q
  | [], S, S', Q, hg, hb, hQ, h => hQ S S' hg hb h
  | o :: l, S, S', Q, hg, hb, hQ, ⟨v, h1, h2⟩ => by
    have hop : ∀ x, S'.opv x = S.opv x := fun x => by cases x <;> first | exact hg _ | rfl
    refine ⟨v, ?_, HT.weak (fun t => ?_) ?_ hQ h2⟩
    · rcases h1 with ⟨hgd, ho⟩ | ⟨hgd, hv⟩
      · refine .inl ⟨?_, fun S2 K n a w hs hb2 hop2 => ho S2 K n a w hs (hb2.trans hb.symm) (fun x hx => (hop2 x hx).trans (hop x).symm)⟩
        unfold GuardIs at *
        cases hgo : o.guard with
        | none => rfl
        | some p => rw [hgo] at hgd; obtain ⟨dg, q1, q2⟩ := hgd; exact ⟨dg, q1, by rw [← hg dg]; exact q2⟩
      · refine .inr ⟨?_, hv⟩
        unfold GuardIs at *
        cases hgo : o.guard with
        | none => rw [hgo] at hgd; exact hgd
        | some p => rw [hgo] at hgd; obtain ⟨dg, q1, q2⟩ := hgd; exact ⟨dg, q1, by rw [← hg dg]; exact q2⟩
    · cases o.dst with
      | none => exact hg t
      | some d =>
        simp only [St.putO, St.get_put]
        split
        · rfl
        · exact hg t
    · cases o.dst <;> exact hb
theorem HT.part {ops : Array Oper} {l l' : List Oper} {Q : St → Prop} {t : Nat} {c : Bool} (h : S.get t = .val (.bool c)) (ht : c = true → HT P N K0 w0 ops l (S.put t (.val (.bool true))) fun S' => LT P N K0 w0 ops l' S' Q) (hf : c = false → HT P N K0 w0 ops l (S.put t (.val (.bool false))) fun S' => LT P N K0 w0 ops l' S' Q) :
    HT P N K0 w0 ops l S fun S' => LT P N K0 w0 ops l' S' Q := by
  have hQ : ∀ T T' : St, (∀ t, T'.get t = T.get t) → T'.mem = T.mem → LT P N K0 w0 ops l' T' Q → LT P N K0 w0 ops l' T Q := fun T T' hg hb hl K n a w hs =>
    hl K n a w (hs.weak ⟨⟨fun t => .inl (.inl (hg t)), fun d A hd => by rw [← St.mem_arrs hb]; exact hd⟩, fun d cs' hd => ⟨cs', by rw [← St.mem_boxes hb]; exact hd, rfl, fun i c c' h1 h2 => by rw [h1] at h2; injection h2 with h2; exact .inl h2.symm⟩⟩ (fun d c1 c2 m1 m2 => by rw [St.mem_boxes hb] at m1 m2; exact hs.boxOne d c1 c2 m1 m2))
  have hg : ∀ b, c = b → ∀ u, (S.put t (.val (.bool b))).get u = S.get u := fun b hb u => by
    rw [St.get_put]
    split
    · rename_i h1; subst h1; rw [h, hb]
    · rfl
  cases c with
  | true => exact HT.weak (hg true rfl) rfl hQ (ht rfl)
  | false => exact HT.weak (hg false rfl) rfl hQ (hf rfl)
end
end Go.Proofs.YtjmnnkhdadoehaaGreat
namespace Go.Proofs.YtjmnnkhdadoehaaGreat
set_option linter.unusedSimpArgs false
set_option linter.unusedVariables false
open Go Go.RowKit Go.Shelf

section
variable {P : Program} {N : Nat} {K0 : Know} {w0 : Bas} {tm : List (Nat × AV)} {bs : List (Nat × List AV)} {ar : List (Nat × Arr)} {Q : St → Prop} {ops : Array Oper} {l l' : List Oper}
variable {d : Nat} {op : Op} {ty : TypeId} {pos : String} {aft : Array Edge} {v : AV}

theorem LT.cons1 (h : OpH P N K0 w0 ⟨some d, op, ty, pos, aft, none⟩ ⟨tm, bs, ar⟩ v) (hd : d < N) (hr : LT P N K0 w0 ops l ⟨(d, v) :: tm, bs, ar⟩ Q) : LT P N K0 w0 ops (⟨some d, op, ty, pos, aft, none⟩ :: l) ⟨tm, bs, ar⟩ Q :=
  LT.cons rfl (h.toT (fun t e => by injection e with e; rw [← e]; exact hd) hr)
theorem LT.guard1 {g : Nat} {want : Bool} {dg : Nat} {c : Bool} (h1 : dstAt ops g = some dg) (h2 : getT tm dg = .val (.bool c)) (hc : (c == want) = true) (hdg : dg < N) (h : OpH P N K0 w0 ⟨some d, op, ty, pos, aft, some (g, want)⟩ ⟨tm, bs, ar⟩ v) (hd : d < N)
    (hr : LT P N K0 w0 ops l ⟨(d, v) :: tm, bs, ar⟩ Q) : LT P N K0 w0 ops (⟨some d, op, ty, pos, aft, some (g, want)⟩ :: l) ⟨tm, bs, ar⟩ Q :=
  LT.guard rfl h1 hdg h2 hc (h.toT (fun t e => by injection e with e; rw [← e]; exact hd) hr)
theorem LT.skip1 {g : Nat} {want : Bool} {dg : Nat} {c : Bool} (h1 : dstAt ops g = some dg) (h2 : getT tm dg = .val (.bool c)) (hc : (c == want) = false) (hdg : dg < N) (hd : d < N)
    (hr : LT P N K0 w0 ops l ⟨(d, .val undef) :: tm, bs, ar⟩ Q) : LT P N K0 w0 ops (⟨some d, op, ty, pos, aft, some (g, want)⟩ :: l) ⟨tm, bs, ar⟩ Q :=
  LT.skipB rfl h1 hdg h2 hc (fun t e => by injection e with e; rw [← e]; exact hd) hr
theorem LT.skip2 {g : Nat} {want : Bool} {dg : Nat} (h1 : dstAt ops g = some dg) (h2 : getT tm dg = .val undef) (hdg : dg < N) (hd : d < N)
    (hr : LT P N K0 w0 ops l ⟨(d, .val undef) :: tm, bs, ar⟩ Q) : LT P N K0 w0 ops (⟨some d, op, ty, pos, aft, some (g, want)⟩ :: l) ⟨tm, bs, ar⟩ Q :=
  LT.skipU rfl h1 hdg h2 (fun t e => by injection e with e; rw [← e]; exact hd) hr
theorem LT.consT {o : Option Nat} (h : OpT P N K0 w0 ⟨o, op, ty, pos, aft, none⟩ ⟨tm, bs, ar⟩ fun S' => LT P N K0 w0 ops l S' Q) : LT P N K0 w0 ops (⟨o, op, ty, pos, aft, none⟩ :: l) ⟨tm, bs, ar⟩ Q :=
  LT.cons rfl h
theorem LT.part1 {g : Nat} {want : Bool} {o : Option Nat} {dg : Nat} {c : Bool} (h1 : dstAt ops g = some dg) (h2 : getT tm dg = .val (.bool c))
    (ht : c = true → LT P N K0 w0 ops (⟨o, op, ty, pos, aft, some (g, want)⟩ :: l) ⟨(dg, .val (.bool true)) :: tm, bs, ar⟩ Q) (hf : c = false → LT P N K0 w0 ops (⟨o, op, ty, pos, aft, some (g, want)⟩ :: l) ⟨(dg, .val (.bool false)) :: tm, bs, ar⟩ Q) : LT P N K0 w0 ops (⟨o, op, ty, pos, aft, some (g, want)⟩ :: l) ⟨tm, bs, ar⟩ Q :=
  LT.part (t := dg) h2 ht hf
theorem HT.cons1 {Q' : St → Prop} (h : OpH P N K0 w0 ⟨some d, op, ty, pos, aft, none⟩ ⟨tm, bs, ar⟩ v) (hr : HT P N K0 w0 ops l ⟨(d, v) :: tm, bs, ar⟩ Q') : HT P N K0 w0 ops (⟨some d, op, ty, pos, aft, none⟩ :: l) ⟨tm, bs, ar⟩ Q' :=
  ⟨v, .inl ⟨rfl, h⟩, hr⟩
theorem HT.guard1 {Q' : St → Prop} {g : Nat} {want : Bool} {dg : Nat} {c : Bool} (h1 : dstAt ops g = some dg) (h2 : getT tm dg = .val (.bool c)) (hc : (c == want) = true) (h : OpH P N K0 w0 ⟨some d, op, ty, pos, aft, some (g, want)⟩ ⟨tm, bs, ar⟩ v)
    (hr : HT P N K0 w0 ops l ⟨(d, v) :: tm, bs, ar⟩ Q') : HT P N K0 w0 ops (⟨some d, op, ty, pos, aft, some (g, want)⟩ :: l) ⟨tm, bs, ar⟩ Q' :=
  ⟨v, .inl ⟨⟨dg, h1, .inl ⟨c, h2, hc.symm⟩⟩, h⟩, hr⟩
theorem HT.skip1 {Q' : St → Prop} {g : Nat} {want : Bool} {dg : Nat} {c : Bool} (h1 : dstAt ops g = some dg) (h2 : getT tm dg = .val (.bool c)) (hc : (c == want) = false)
    (hr : HT P N K0 w0 ops l ⟨(d, .val undef) :: tm, bs, ar⟩ Q') : HT P N K0 w0 ops (⟨some d, op, ty, pos, aft, some (g, want)⟩ :: l) ⟨tm, bs, ar⟩ Q' :=
  ⟨.val undef, .inr ⟨⟨dg, h1, .inl ⟨c, h2, hc.symm⟩⟩, rfl⟩, hr⟩
theorem HT.skip2 {Q' : St → Prop} {g : Nat} {want : Bool} {dg : Nat} (h1 : dstAt ops g = some dg) (h2 : getT tm dg = .val undef)
    (hr : HT P N K0 w0 ops l ⟨(d, .val undef) :: tm, bs, ar⟩ Q') : HT P N K0 w0 ops (⟨some d, op, ty, pos, aft, some (g, want)⟩ :: l) ⟨tm, bs, ar⟩ Q' :=
  ⟨.val undef, .inr ⟨⟨dg, h1, .inr ⟨h2, rfl⟩⟩, rfl⟩, hr⟩
theorem HT.part1 {Q0 : St → Prop} {g : Nat} {want : Bool} {dg : Nat} {o : Option Nat} {c : Bool} (h1 : dstAt ops g = some dg) (h2 : getT tm dg = .val (.bool c))
    (ht : c = true → HT P N K0 w0 ops (⟨o, op, ty, pos, aft, some (g, want)⟩ :: l) ⟨(dg, .val (.bool true)) :: tm, bs, ar⟩ fun S' => LT P N K0 w0 ops l' S' Q0) (hf : c = false → HT P N K0 w0 ops (⟨o, op, ty, pos, aft, some (g, want)⟩ :: l) ⟨(dg, .val (.bool false)) :: tm, bs, ar⟩ fun S' => LT P N K0 w0 ops l' S' Q0) :
    HT P N K0 w0 ops (⟨o, op, ty, pos, aft, some (g, want)⟩ :: l) ⟨tm, bs, ar⟩ fun S' => LT P N K0 w0 ops l' S' Q0 :=
  HT.part (t := dg) h2 ht hf
theorem HT.nil1 {Q' : St → Prop} (h : Q' ⟨tm, bs, ar⟩) : HT P N K0 w0 ops [] ⟨tm, bs, ar⟩ Q' := h
section
variable {QE : Exit → St → Prop} {c1 c2 : Code}
theorem CT.seq1 (h : CT P N K0 w0 c1 ⟨tm, bs, ar⟩ (thenA (fun S' => CT P N K0 w0 c2 S' QE) QE)) : CT P N K0 w0 (c1.seq c2) ⟨tm, bs, ar⟩ QE := CT.seq h
theorem CT.condT {x : Operand} (hc : St.opv ⟨tm, bs, ar⟩ x = .val (.bool true)) (h : CT P N K0 w0 c1 ⟨tm, bs, ar⟩ QE) : CT P N K0 w0 (.cond x c1 c2) ⟨tm, bs, ar⟩ QE := CT.cond hc (fun _ => h) (fun e => by cases e)
theorem CT.condF {x : Operand} (hc : St.opv ⟨tm, bs, ar⟩ x = .val (.bool false)) (h : CT P N K0 w0 c2 ⟨tm, bs, ar⟩ QE) : CT P N K0 w0 (.cond x c1 c2) ⟨tm, bs, ar⟩ QE := CT.cond hc (fun e => by cases e) (fun _ => h)
end
/-! Loads, by how many cells. -/
variable {S : St} {dO : Option Nat} {g : Option (Nat × Bool)} {t : TypeId} {x : Operand}
theorem loadC2 {a b : Value} {r : List Value} (h : S.opv x = .cptr (a :: b :: r)) (hk : rowSize P t = some 2) : OpH P N K0 w0 ⟨dO, .load t x, ty, pos, aft, g⟩ S (.val (.agg #[a, b])) := OpH.loadC (cs := [a, b]) h hk rfl rfl
theorem loadC3 {a b c : Value} {r : List Value} (h : S.opv x = .cptr (a :: b :: c :: r)) (hk : rowSize P t = some 3) : OpH P N K0 w0 ⟨dO, .load t x, ty, pos, aft, g⟩ S (.val (.agg #[a, b, c])) := OpH.loadC (cs := [a, b, c]) h hk rfl rfl
theorem loadC4 {a b c d : Value} {r : List Value} (h : S.opv x = .cptr (a :: b :: c :: d :: r)) (hk : rowSize P t = some 4) : OpH P N K0 w0 ⟨dO, .load t x, ty, pos, aft, g⟩ S (.val (.agg #[a, b, c, d])) := OpH.loadC (cs := [a, b, c, d]) h hk rfl rfl
theorem loadC6 {a b c d e f : Value} {r : List Value} (h : S.opv x = .cptr (a :: b :: c :: d :: e :: f :: r)) (hk : rowSize P t = some 6) : OpH P N K0 w0 ⟨dO, .load t x, ty, pos, aft, g⟩ S (.val (.agg #[a, b, c, d, e, f])) := OpH.loadC (cs := [a, b, c, d, e, f]) h hk rfl rfl
theorem loadC7 {a b c d e f i : Value} {r : List Value} (h : S.opv x = .cptr (a :: b :: c :: d :: e :: f :: i :: r)) (hk : rowSize P t = some 7) : OpH P N K0 w0 ⟨dO, .load t x, ty, pos, aft, g⟩ S (.val (.agg #[a, b, c, d, e, f, i])) := OpH.loadC (cs := [a, b, c, d, e, f, i]) h hk rfl rfl
theorem loadC8 {a b c d e f i j : Value} {r : List Value} (h : S.opv x = .cptr (a :: b :: c :: d :: e :: f :: i :: j :: r)) (hk : rowSize P t = some 8) : OpH P N K0 w0 ⟨dO, .load t x, ty, pos, aft, g⟩ S (.val (.agg #[a, b, c, d, e, f, i, j])) := OpH.loadC (cs := [a, b, c, d, e, f, i, j]) h hk rfl rfl
theorem loadB2 {p o : Nat} {cs : List AV} {a b : Value} (h : S.opv x = .ptr p o) (hb : getB S.boxes p = some cs) (hk : rowSize P t = some 2) (hv : valCells ((cs.drop o).take 2) = some [a, b]) : OpH P N K0 w0 ⟨dO, .load t x, ty, pos, aft, g⟩ S (.val (.agg #[a, b])) := OpH.loadB (vs := [a, b]) h hb hk hv rfl
theorem loadB3 {p o : Nat} {cs : List AV} {a b c : Value} (h : S.opv x = .ptr p o) (hb : getB S.boxes p = some cs) (hk : rowSize P t = some 3) (hv : valCells ((cs.drop o).take 3) = some [a, b, c]) : OpH P N K0 w0 ⟨dO, .load t x, ty, pos, aft, g⟩ S (.val (.agg #[a, b, c])) := OpH.loadB (vs := [a, b, c]) h hb hk hv rfl
theorem loadB4 {p o : Nat} {cs : List AV} {a b c d : Value} (h : S.opv x = .ptr p o) (hb : getB S.boxes p = some cs) (hk : rowSize P t = some 4) (hv : valCells ((cs.drop o).take 4) = some [a, b, c, d]) : OpH P N K0 w0 ⟨dO, .load t x, ty, pos, aft, g⟩ S (.val (.agg #[a, b, c, d])) := OpH.loadB (vs := [a, b, c, d]) h hb hk hv rfl
theorem loadB6 {p o : Nat} {cs : List AV} {a b c d e f : Value} (h : S.opv x = .ptr p o) (hb : getB S.boxes p = some cs) (hk : rowSize P t = some 6) (hv : valCells ((cs.drop o).take 6) = some [a, b, c, d, e, f]) : OpH P N K0 w0 ⟨dO, .load t x, ty, pos, aft, g⟩ S (.val (.agg #[a, b, c, d, e, f])) := OpH.loadB (vs := [a, b, c, d, e, f]) h hb hk hv rfl
theorem loadB7 {p o : Nat} {cs : List AV} {a b c d e f i : Value} (h : S.opv x = .ptr p o) (hb : getB S.boxes p = some cs) (hk : rowSize P t = some 7) (hv : valCells ((cs.drop o).take 7) = some [a, b, c, d, e, f, i]) : OpH P N K0 w0 ⟨dO, .load t x, ty, pos, aft, g⟩ S (.val (.agg #[a, b, c, d, e, f, i])) := OpH.loadB (vs := [a, b, c, d, e, f, i]) h hb hk hv rfl
theorem loadB8 {p o : Nat} {cs : List AV} {a b c d e f i j : Value} (h : S.opv x = .ptr p o) (hb : getB S.boxes p = some cs) (hk : rowSize P t = some 8) (hv : valCells ((cs.drop o).take 8) = some [a, b, c, d, e, f, i, j]) : OpH P N K0 w0 ⟨dO, .load t x, ty, pos, aft, g⟩ S (.val (.agg #[a, b, c, d, e, f, i, j])) := OpH.loadB (vs := [a, b, c, d, e, f, i, j]) h hb hk hv rfl
theorem map_at {α : Type} {enc : α → List Value} {xs : List α} {j : Nat} (h : j < xs.length) : (xs.map enc)[j]? = some (enc xs[j]) := by simp [h]
end
end Go.Proofs.YtjmnnkhdadoehaaGreat
namespace Go.Proofs.YtjmnnkhdadoehaaGreat
set_option linter.unusedSimpArgs false
set_option linter.unusedVariables false
open Go Go.RowKit Go.Shelf

theorem same_t {α : Type} [DecidableEq α] {a b : α} (h : a = b) : same a b = true := by simp [same, h]
theorem same_f {α : Type} [DecidableEq α] {a b : α} (h : ¬ a = b) : same a b = false := by simp [same, h]
theorem nbeqB_f {a b : Bool} (h : a = b) : (!(a == b)) = false := by simp [h]
section
variable {P : Program} {N : Nat} {K0 : Know} {w0 : Bas} {tm : List (Nat × AV)} {bs : List (Nat × List AV)} {ar : List (Nat × Arr)} {QE : Exit → St → Prop} {c2 : Code}
theorem CT.seqR {id : Nat} {l : List Oper} (h : LT P N K0 w0 l.toArray l ⟨tm, bs, ar⟩ (fun S' => CT P N K0 w0 c2 S' QE)) : CT P N K0 w0 ((Code.region id l.toArray false).seq c2) ⟨tm, bs, ar⟩ QE := CT.seq (CT.region h)
theorem CT.seqD {id : Nat} {l : List Oper} (n : Nat) (hm : P.follows .mixedOrders = true) (hB : headB l.toArray N n = true)
    (h : HT P N K0 w0 l.toArray (l.take n) ⟨tm, bs, ar⟩ fun S' => LT P N K0 w0 l.toArray (l.drop n) S' fun S'' => CT P N K0 w0 c2 S'' QE) : CT P N K0 w0 ((Code.region id l.toArray true).seq c2) ⟨tm, bs, ar⟩ QE := CT.seq (CT.draw n hm hB h)
variable {S : St} {d : Option Nat} {ty : TypeId} {pos : String} {aft : Array Edge} {g : Option (Nat × Bool)} {t : TypeId} {x y : Operand}
theorem OpH.lenM {α : Type} {enc : α → List Value} {A : AV} {k : Nat} {xs : List α} (h1 : S.opv x = A) (hA : A.Sl k (xs.map enc)) (hk : (elemSize P t).isSome = true) : OpH P N K0 w0 ⟨d, .call { callee := .builtin .len, args := #[x], argTypes := #[t] }, ty, pos, aft, g⟩ S (.val (.int .i64 xs.length)) := by
  have := OpH.len (P := P) (N := N) (K0 := K0) (w0 := w0) (d := d) (ty := ty) (pos := pos) (aft := aft) (g := g) h1 hA hk
  rwa [List.length_map] at this
theorem OpH.subM {α : Type} {enc : α → List Value} {A : AV} {k : Nat} {xs ys : List α} {lo hi : Option Operand} {l h : Nat} (h1 : S.opv x = A) (hA : A.Sl k (xs.map enc)) (hk : elemSize P t = some k) (hlo : optOp S lo l 0) (hhi : optOp S hi h xs.length)
    (hl : l ≤ h) (hh : h ≤ xs.length) (hy : (xs.take h).drop l = ys) : OpH P N K0 w0 ⟨d, .slice t x lo hi none, ty, pos, aft, g⟩ S (.sl k (ys.map enc)) := by
  subst hy
  refine OpH.slice h1 hA hk hlo (by rw [List.length_map]; exact hhi) hl (by rw [List.length_map]; exact hh) ?_
  rw [List.map_drop, List.map_take]
theorem OpH.subHi {α : Type} {enc : α → List Value} {A : AV} {k h : Nat} {xs : List α} {kk : IntKind} {i : Int} (h1 : S.opv x = A) (hA : A.Sl k (xs.map enc)) (hk : elemSize P t = some k) (h2 : S.opv y = .val (.int kk i)) (hi : i = (h : Int)) (hh : h ≤ xs.length) :
    OpH P N K0 w0 ⟨d, .slice t x none (some y) none, ty, pos, aft, g⟩ S (.sl k ((xs.take h).map enc)) := by
  subst hi
  exact OpH.subM h1 hA hk (.inl ⟨rfl, rfl⟩) (.inr ⟨y, kk, rfl, h2⟩) (Nat.zero_le _) hh rfl
theorem OpH.subLo {α : Type} {enc : α → List Value} {A : AV} {k l : Nat} {xs : List α} {kk : IntKind} {i : Int} (h1 : S.opv x = A) (hA : A.Sl k (xs.map enc)) (hk : elemSize P t = some k) (h2 : S.opv y = .val (.int kk i)) (hi : i = (l : Int)) (hh : l ≤ xs.length) :
    OpH P N K0 w0 ⟨d, .slice t x (some y) none none, ty, pos, aft, g⟩ S (.sl k ((xs.drop l).map enc)) := by
  subst hi
  exact OpH.subM h1 hA hk (.inr ⟨y, kk, rfl, h2⟩) (.inl ⟨rfl, rfl⟩) hh (Nat.le_refl _) (by rw [List.take_length])
theorem OpH.subLH {α : Type} {enc : α → List Value} {A : AV} {k l h : Nat} {xs : List α} {kk k2 : IntKind} {i j : Int} {z : Operand} (h1 : S.opv x = A) (hA : A.Sl k (xs.map enc)) (hk : elemSize P t = some k) (h2 : S.opv y = .val (.int kk i)) (hi : i = (l : Int)) (h3 : S.opv z = .val (.int k2 j)) (hj : j = (h : Int)) (hl : l ≤ h) (hh : h ≤ xs.length) :
    OpH P N K0 w0 ⟨d, .slice t x (some y) (some z) none, ty, pos, aft, g⟩ S (.sl k (((xs.take h).drop l).map enc)) := by
  subst hi hj
  exact OpH.subM h1 hA hk (.inr ⟨y, kk, rfl, h2⟩) (.inr ⟨z, k2, rfl, h3⟩) hl hh rfl
def arrInfo (P : Program) (t : TypeId) : Option (Nat × Nat) :=
  match P.underlying t with
  | some (.array n e) => (P.info? e).map fun i => (n, i.size)
  | _ => none
theorem run_arrAt {n k j b o : Nat} {kk : IntKind} (hk : arrInfo P t = some (n, k)) (hj : j < n) (w : World) : (Instr.indexAt t (.pointer (some ⟨b, o, none⟩)) (.int kk (j : Int))).run P w = .ok (.pointer (some ⟨b, o + j * k, none⟩)) w := by
  unfold arrInfo at hk
  split at hk
  · rename_i n' e hu
    obtain ⟨i, hi, he⟩ := Option.map_eq_some_iff.1 hk
    injection he with e1 e2
    subst e1 e2
    simp [Instr.indexAt, run_underlying hu, asIntOf, Instr.sureAddr, sizeOf, typeInfo, hi, hj, Addr.add_mid]
  · cases hk
theorem OpH.indexAC {n k j : Nat} {kk : IntKind} {i : Int} {vs : List Value} {v : AV} (h1 : S.opv x = .cptr vs) (h2 : S.opv y = .val (.int kk i)) (hi : i = (j : Int)) (hk : arrInfo P t = some (n, k)) (hj : j < n) (hv : .cptr (vs.drop (j * k)) = v) : OpH P N K0 w0 ⟨d, .indexAddr t x y, ty, pos, aft, g⟩ S v := by
  subst hv hi
  refine OpH.ret (fun S' K n a w hs _ hop => ?_) (no_row (by intros; intro h; cases h) (by intros; intro h; cases h))
  have e1 := hs.opv x
  have e2 := hs.opv y
  rw [hop x (by simp [Op.operands]), h1] at e1
  rw [hop y (by simp [Op.operands]), h2] at e2
  obtain ⟨b, o, e3, h3⟩ := e1
  refine ⟨.pointer (some ⟨b, o + j * k, none⟩), ?_, ⟨b, _, rfl, fun q u hq => ?_⟩⟩
  · simp only [execOp]
    rw [e3, show a.eval y = .int kk (j : Int) from e2, Sem.run_bind, run_arrAt hk hj]
    rfl
  · rw [List.getElem?_drop] at hq
    rw [Nat.add_assoc]
    exact h3 _ u hq
theorem OpH.indexAB {n k j b o : Nat} {kk : IntKind} {i : Int} {v : AV} (h1 : S.opv x = .ptr b o) (h2 : S.opv y = .val (.int kk i)) (hi : i = (j : Int)) (hk : arrInfo P t = some (n, k)) (hj : j < n) (hv : .ptr b (o + j * k) = v) : OpH P N K0 w0 ⟨d, .indexAddr t x y, ty, pos, aft, g⟩ S v := by
  subst hv hi
  refine OpH.ret (fun S' K n a w hs _ hop => ?_) (no_row (by intros; intro h; cases h) (by intros; intro h; cases h))
  have e1 := hs.opv x
  have e2 := hs.opv y
  rw [hop x (by simp [Op.operands]), h1] at e1
  rw [hop y (by simp [Op.operands]), h2] at e2
  obtain ⟨b', hb, e3⟩ := e1
  refine ⟨.pointer (some ⟨b', o + j * k, none⟩), ?_, ⟨b', hb, rfl⟩⟩
  simp only [execOp]
  rw [e3, show a.eval y = .int kk (j : Int) from e2, Sem.run_bind, run_arrAt hk hj]
  rfl
theorem OpH.max2 {kk k2 : IntKind} {a b : Int} {ats : Array TypeId} (h1 : S.opv x = .val (.int kk a)) (h2 : S.opv y = .val (.int k2 b)) : OpH P N K0 w0 ⟨d, .call { callee := .builtin .max, args := #[x, y], argTypes := ats }, ty, pos, aft, g⟩ S (.val (.int kk (if a < b then b else a))) := by
  refine OpH.ret (fun S' K n a w hs _ hop => ⟨_, ?_, rfl⟩) no_row_val
  have e1 := hs.opv x
  have e2 := hs.opv y
  rw [hop x (by simp [Op.operands, Call.operands]), h1] at e1
  rw [hop y (by simp [Op.operands, Call.operands]), h2] at e2
  simp [execOp, resolve, invoke, builtin, show a.eval x = _ from e1, show a.eval y = _ from e2, Builtin.max_, Builtin.max2]
theorem OpH.min2 {kk k2 : IntKind} {a b : Int} {ats : Array TypeId} (h1 : S.opv x = .val (.int kk a)) (h2 : S.opv y = .val (.int k2 b)) : OpH P N K0 w0 ⟨d, .call { callee := .builtin .min, args := #[x, y], argTypes := ats }, ty, pos, aft, g⟩ S (.val (.int kk (if b < a then b else a))) := by
  refine OpH.ret (fun S' K n a w hs _ hop => ⟨_, ?_, rfl⟩) no_row_val
  have e1 := hs.opv x
  have e2 := hs.opv y
  rw [hop x (by simp [Op.operands, Call.operands]), h1] at e1
  rw [hop y (by simp [Op.operands, Call.operands]), h2] at e2
  simp [execOp, resolve, invoke, builtin, show a.eval x = _ from e1, show a.eval y = _ from e2, Builtin.min_, Builtin.min2]
/-! ### Closures over boxes -/
theorem OpH.mkfn {f : FuncId} : OpH P N K0 w0 ⟨d, .makeFunc (.func f) #[] #[], ty, pos, aft, g⟩ S (.clo f []) := by
  refine OpH.ret (fun S' K n a w hs _ hop => ⟨.func (.func f) #[] #[], by simp [execOp, Instr.makeFunc], ⟨[], rfl, rfl, fun i p vs h => by simp at h⟩⟩) (no_row (by intros; intro h; cases h) (by intros; intro h; cases h))
theorem OpH.mkclo1 {f : FuncId} {b o : Nat} (h1 : S.opv x = .ptr b o) : OpH P N K0 w0 ⟨d, .makeFunc (.func f) #[] #[x], ty, pos, aft, g⟩ S (.cloB f [(b, o)]) := by
  refine OpH.ret (fun S' K n a w hs _ hop => ?_) (no_row (by intros; intro h; cases h) (by intros; intro h; cases h))
  have e1 := hs.opv x
  rw [hop x (by simp [Op.operands]), h1] at e1
  obtain ⟨b', hb, e3⟩ := e1
  refine ⟨.func (.func f) #[] #[.pointer (some ⟨b', o, none⟩)], by simp [execOp, Instr.makeFunc, e3], ⟨[.pointer (some ⟨b', o, none⟩)], rfl, rfl, fun i p d' o' hp hd => ?_⟩⟩
  cases i with
  | zero => simp at hp hd; obtain ⟨rfl, rfl⟩ := hd; exact ⟨b', hb, hp.symm⟩
  | succ i => simp at hp
theorem OpH.mkclo2 {f : FuncId} {b o b2 o2 : Nat} (h1 : S.opv x = .ptr b o) (h2 : S.opv y = .ptr b2 o2) : OpH P N K0 w0 ⟨d, .makeFunc (.func f) #[] #[x, y], ty, pos, aft, g⟩ S (.cloB f [(b, o), (b2, o2)]) := by
  refine OpH.ret (fun S' K n a w hs _ hop => ?_) (no_row (by intros; intro h; cases h) (by intros; intro h; cases h))
  have e1 := hs.opv x
  have e2 := hs.opv y
  rw [hop x (by simp [Op.operands]), h1] at e1
  rw [hop y (by simp [Op.operands]), h2] at e2
  obtain ⟨b', hb, e3⟩ := e1
  obtain ⟨b2', hb2, e4⟩ := e2
  refine ⟨.func (.func f) #[] #[.pointer (some ⟨b', o, none⟩), .pointer (some ⟨b2', o2, none⟩)], by simp [execOp, Instr.makeFunc, e3, e4], ⟨[.pointer (some ⟨b', o, none⟩), .pointer (some ⟨b2', o2, none⟩)], rfl, rfl, fun i p d' o' hp hd => ?_⟩⟩
  match i with
  | 0 => simp at hp hd; obtain ⟨rfl, rfl⟩ := hd; exact ⟨b', hb, hp.symm⟩
  | 1 => simp at hp hd; obtain ⟨rfl, rfl⟩ := hd; exact ⟨b2', hb2, hp.symm⟩
  | i + 2 => simp at hp
def capsOf (S : St) : List (Nat × Nat) → Option (List (List Value))
  | [] => some []
  | (b, o) :: l => match getB S.boxes b with
    | some cs => match valCells (cs.drop o), capsOf S l with
      | some vs, some r => some (vs :: r)
      | _, _ => none
    | none => none
inductive ArgB (S : St) : AV → AV → Prop
  | a {A A'} (h : ArgOf A A') : ArgB S A A'
  | ptr {A b o cs vs} (hA : A = .ptr b o) (hb : getB S.boxes b = some cs) (hv : valCells (cs.drop o) = some vs) : ArgB S A (.cptr vs)
  | clo {f ds caps} (h : capsOf S ds = some caps) : ArgB S (.cloB f ds) (.clo f caps)
def ArgsB (S : St) : List Operand → List AV → Prop
  | [], [] => True
  | x :: xs, A :: As => ArgB S (S.opv x) A ∧ ArgsB S xs As
  | _, _ => False
theorem ArgsB.get {S : St} : ∀ {xs : List Operand} {As : List AV}, ArgsB S xs As → xs.length = As.length ∧ ∀ (i : Nat) A x, As[i]? = some A → xs[i]? = some x → ArgB S (S.opv x) A
  | [], [], _ => ⟨rfl, fun i A x h => by simp at h⟩
  | [], _ :: _, h => h.elim
  | _ :: _, [], h => h.elim
  | x :: xs, A :: As, h => by
    obtain ⟨h1, h2⟩ := ArgsB.get h.2
    refine ⟨by simp [h1], fun i B y hB hy => ?_⟩
    cases i with
    | zero => simp at hB hy; subst hB hy; exact h.1
    | succ i => exact h2 i B y (by simpa using hB) (by simpa using hy)
open Classical in
noncomputable def Know.boxed (K : Know) (n : Nm) (S : St) (w : World) : Know := fun b o => match K b o with
  | some v => some v
  | none => if ∃ d cs, (d, cs) ∈ S.boxes ∧ n.β d = some b then w.cell? ⟨b, o, none⟩ else none
theorem Know.boxed_le {K : Know} {n : Nm} {w : World} : K.le (K.boxed n S w) := fun b o v h => by unfold Know.boxed; rw [h]
theorem Know.boxed_ok {K : Know} {n : Nm} {w : World} (h : K.ok w) : (K.boxed n S w).ok w := fun b o v hv => by
  unfold Know.boxed at hv
  split at hv
  · rename_i u hu; injection hv with hv; subst hv; exact h b o u hu
  · split at hv
    · exact hv
    · cases hv
theorem box_cp {K : Know} {n : Nm} {a : Act} {w : World} (hs : Sim N K0 w0 S K n a w) {d o b : Nat} {cs : List AV} {vs : List Value} (hβ : n.β d = some b) (hb : getB S.boxes d = some cs) (hv : valCells (cs.drop o) = some vs) : CP (K.boxed n S w) vs (.pointer (some ⟨b, o, none⟩)) := by
  have hm := getB_mem hb
  obtain ⟨b', arr, ty, q1, q2, q3, q4, q5, q6⟩ := hs.box d cs hm
  rw [hβ] at q1
  injection q1 with q1
  subst q1
  obtain ⟨h3, h4⟩ := valCells_get hv
  refine ⟨b, o, rfl, fun j u hu => ?_⟩
  have h6 := h4 j u hu
  rw [List.getElem?_drop] at h6
  have h7 := q5 _ _ h6
  have hlt : o + j < arr.size := by rw [q4]; exact (List.getElem?_eq_some_iff.1 h6).1
  simp only [Array.getD_eq_getD_getElem?, Array.getElem?_eq_getElem hlt, Option.getD_some] at h7
  unfold Know.boxed
  rw [q6]
  simp only
  rw [if_pos ⟨d, cs, hm, hβ⟩]
  simp only [World.cell?, q3]
  simp only [Option.isSome_none, Bool.false_eq_true, if_false, Array.getElem?_eq_getElem hlt]
  exact congrArg some h7
theorem ArgB.rep {K : Know} {n : Nm} {a : Act} {w : World} (hs : Sim N K0 w0 S K n a w) {A A' : AV} {c : Value} (h : ArgB S A A') (hr : Rep K n A c) : Rep1 (K.boxed n S w) Nm.nil A' c := by
  cases h with
  | a h => exact (h.rep hr).mono Know.boxed_le
  | ptr hA hb hv =>
    subst hA
    obtain ⟨b', hβ, rfl⟩ := hr
    exact box_cp hs hβ hb hv
  | clo h =>
    rename_i f ds caps
    obtain ⟨ps, e, h1, h2⟩ := hr
    refine ⟨ps, e, ?_, ?_⟩
    · rw [h1]
      clear h2 h1 e
      induction ds generalizing caps with
      | nil => simp [capsOf] at h; subst h; rfl
      | cons q ds ih =>
        obtain ⟨b, o⟩ := q
        simp only [capsOf] at h
        split at h
        · split at h
          · rename_i r _ hr2
            injection h with h
            subst h
            simp [ih hr2]
          · cases h
        · cases h
    · intro i p vs hp hvs
      have key : ∀ (ds : List (Nat × Nat)) (caps : List (List Value)), capsOf S ds = some caps → ∀ (i : Nat) vs, caps[i]? = some vs → ∃ b o cs, ds[i]? = some (b, o) ∧ getB S.boxes b = some cs ∧ valCells (cs.drop o) = some vs := by
        intro ds
        induction ds with
        | nil => intro caps hc i vs hi; simp [capsOf] at hc; subst hc; simp at hi
        | cons q ds ih =>
          intro caps hc i vs hi
          obtain ⟨b, o⟩ := q
          simp only [capsOf] at hc
          split at hc
          · rename_i cs hcs
            split at hc
            · rename_i v r hv hr2
              injection hc with hc
              subst hc
              cases i with
              | zero => simp at hi; subst hi; exact ⟨b, o, cs, rfl, hcs, hv⟩
              | succ i => obtain ⟨b', o', cs', q1, q2⟩ := ih r hr2 i vs (by simpa using hi); exact ⟨b', o', cs', by simpa using q1, q2⟩
            · cases hc
          · cases hc
      obtain ⟨b, o, cs, q1, q2, q3⟩ := key ds caps h i vs hvs
      obtain ⟨b', hβ, rfl⟩ := h2 i p b o hp q1
      exact box_cp hs hβ q2 q3
theorem capsOf_eq {S S' : St} (hB : S'.boxes = S.boxes) : ∀ ds, capsOf S' ds = capsOf S ds
  | [] => rfl
  | (b, o) :: ds => by simp only [capsOf, hB, capsOf_eq hB ds]
theorem ArgB.at {S S' : St} (hB : S'.boxes = S.boxes) {B A : AV} (h : ArgB S B A) : ArgB S' B A := by
  cases h with
  | a h => exact .a h
  | ptr q1 q2 q3 => exact .ptr q1 (by rw [hB]; exact q2) q3
  | clo h => exact .clo (by rw [capsOf_eq hB]; exact h)
theorem OpH.callB {f : FuncId} {fn : Func} {c : Code} {args : Array Operand} {ats : Array TypeId} {As : List AV} {v : Value} (hf : P.funcs[f]? = some fn) (hname : (fn.name == "runtime.NumGoroutine") = false) (hb : fn.body = some c)
    (hargs : ArgsB S args.toList As) (hg : Good P f As (.val v)) : OpH P N K0 w0 ⟨d, .call { callee := .value (.func f), args := args, argTypes := ats }, ty, pos, aft, g⟩ S (.val v) := by
  intro S' K n a w hs hB hop
  obtain ⟨hl, ha⟩ := hargs.get
  refine upon_enter_calls (call_run hf hname hb a w) (hg (K.boxed n S' w) w (args.toList.map a.eval) (Know.boxed_ok hs.ok) (by simp [hl]) fun i A c hA hc => ?_) ?_
  · rw [List.getElem?_map, Option.map_eq_some_iff] at hc
    obtain ⟨x, hx, rfl⟩ := hc
    have h1 := hs.opv x
    rw [hop x (by simp only [Op.operands, Call.operands]; simp; right; simpa using List.mem_of_getElem? hx)] at h1
    have h3 := (ha i A x hA hx).at (St.mem_boxes hB)
    exact h3.rep hs h1
  · rintro e w' ⟨c, K', rfl, h1, h2, h3, h4, ρ, h5, _⟩
    exact ⟨c, rfl, c, K, rfl, h1, Know.le_refl K, Know.below hs.ok h1, fun _ _ _ h _ => h, h5, fun r e k xs hr => absurd hr (AV.plain_row rfl r e k xs)⟩
/-! ### Calls, the arguments reckoned -/
def AV.arg : AV → AV
  | .row _ _ k xs => .sl k xs
  | .full k xs => .sl k xs
  | .ptr _ _ | .cloB _ _ | .tup _ | .arow _ | .aptr _ _ _ _ | .asub _ _ _ _ => .dead
  | A => A
theorem AV.arg_of (A : AV) : ArgOf A A.arg := by
  cases A with
  | row r e k xs => exact .sl (.row r e k xs)
  | full k xs => exact .sl (.full k xs)
  | ptr => exact .dead
  | cloB => exact .dead
  | arow => exact .dead
  | aptr => exact .dead
  | asub => exact .dead
  | tup => exact .dead
  | dead => exact .dead
  | val v => exact .same rfl
  | sl k xs => exact .same rfl
  | cptr vs => exact .same rfl
  | clo f cs => exact .same rfl
  | pr p => exact .same rfl
theorem Args.of_map {S : St} : ∀ (xs : List Operand), Args S xs (xs.map fun x => (S.opv x).arg)
  | [] => trivial
  | x :: xs => ⟨(S.opv x).arg_of, Args.of_map xs⟩
theorem OpH.callF {f : FuncId} {fn : Func} {c : Code} {args : Array Operand} {ats : Array TypeId} {As : List AV} {res : AV} (hf : P.funcs[f]? = some fn) (hname : (fn.name == "runtime.NumGoroutine") = false) (hb : fn.body = some c)
    (hargs : (args.toList.map fun x => (S.opv x).arg) = As) (hg : Good P f As res) (hp : res.plain = true) : OpH P N K0 w0 ⟨d, .call { callee := .value (.func f), args := args, argTypes := ats }, ty, pos, aft, g⟩ S res :=
  OpH.call hf hname hb (by subst hargs; exact Args.of_map _) hg hp
def AV.argB (S : St) : AV → AV
  | .ptr b o => match getB S.boxes b with
    | some cs => match valCells (cs.drop o) with
      | some vs => .cptr vs
      | none => .dead
    | none => .dead
  | .cloB f ds => match capsOf S ds with
    | some caps => .clo f caps
    | none => .dead
  | A => A.arg
theorem AV.argB_of (S : St) (A : AV) : ArgB S A (A.argB S) := by
  cases A with
  | ptr b o =>
    simp only [AV.argB]
    split
    · rename_i cs hcs
      split
      · rename_i vs hv; exact .ptr rfl hcs hv
      · exact .a .dead
    · exact .a .dead
  | cloB f ds =>
    simp only [AV.argB]
    split
    · rename_i caps h; exact .clo h
    · exact .a .dead
  | _ => exact .a (AV.arg_of _)
theorem ArgsB.of_map {S : St} : ∀ (xs : List Operand), ArgsB S xs (xs.map fun x => (S.opv x).argB S)
  | [] => trivial
  | x :: xs => ⟨(S.opv x).argB_of S, ArgsB.of_map xs⟩
theorem OpH.callBF {f : FuncId} {fn : Func} {c : Code} {args : Array Operand} {ats : Array TypeId} {As : List AV} {v : Value} (hf : P.funcs[f]? = some fn) (hname : (fn.name == "runtime.NumGoroutine") = false) (hb : fn.body = some c)
    (hargs : (args.toList.map fun x => (S.opv x).argB S) = As) (hg : Good P f As (.val v)) : OpH P N K0 w0 ⟨d, .call { callee := .value (.func f), args := args, argTypes := ats }, ty, pos, aft, g⟩ S (.val v) :=
  OpH.callB hf hname hb (by subst hargs; exact ArgsB.of_map _) hg
/-! ### Steps that do more than give a slot a value -/
variable {Q : St → Prop} {e dn : Nat}
theorem T.box {v : Value} {cs : List AV} (h1 : St.opv ⟨tm, bs, ar⟩ x = .val v) (hcs : v.cells.toList.map AV.val = cs) (hd : dn < N) (hf : St.free ⟨tm, bs, ar⟩ dn = true) (hnb : bs.all (fun p => !(Nat.beq p.1 dn)) = true) (hq : Q ⟨(dn, .ptr dn 0) :: tm, (dn, cs) :: bs, ar⟩) :
    OpT P N K0 w0 ⟨some dn, .box e x, ty, pos, aft, g⟩ ⟨tm, bs, ar⟩ Q := OpT.box h1 hcs hd hf hnb hq
theorem T.boxS {A : AV} {k : Nat} {xs : Cells} (h1 : St.opv ⟨tm, bs, ar⟩ x = A) (hA : A.Sl k xs) (hd : dn < N) (hf : St.free ⟨tm, bs, ar⟩ dn = true) (hnb : bs.all (fun p => !(Nat.beq p.1 dn)) = true) (hq : Q ⟨(dn, .ptr dn 0) :: tm, (dn, [.sl k xs]) :: bs, ar⟩) :
    OpT P N K0 w0 ⟨some dn, .box e x, ty, pos, aft, g⟩ ⟨tm, bs, ar⟩ Q := OpT.boxS h1 hA hd hf hnb hq
theorem T.alloc {z : Value} {cs : List AV} (hz : ((P.info? e).bind (·.zero)) = some z) (hcs : z.cells.toList.map AV.val = cs) (hd : dn < N) (hf : St.free ⟨tm, bs, ar⟩ dn = true) (hnb : bs.all (fun p => !(Nat.beq p.1 dn)) = true) (hq : Q ⟨(dn, .ptr dn 0) :: tm, (dn, cs) :: bs, ar⟩) :
    OpT P N K0 w0 ⟨some dn, .alloc e, ty, pos, aft, g⟩ ⟨tm, bs, ar⟩ Q := OpT.alloc hz hcs hd hf hnb hq
theorem T.store {b o : Nat} {v : Value} {cs cs' : List AV} (h1 : St.opv ⟨tm, bs, ar⟩ x = .ptr b o) (h2 : St.opv ⟨tm, bs, ar⟩ y = .val v) (hb : getB bs b = some cs) (hk : (P.info? t).map (·.size) = some v.cells.size) (ho1 : v.cells.all (·.oneCell') = true) (ho : o + v.cells.size ≤ cs.length)
    (hcs : cs.take o ++ v.cells.toList.map AV.val ++ cs.drop (o + v.cells.size) = cs') {bs' : List (Nat × List AV)} (hbs : setBx bs b cs' = bs') (hq : Q ⟨tm, bs', ar⟩) : OpT P N K0 w0 ⟨none, .store t x y, ty, pos, aft, g⟩ ⟨tm, bs, ar⟩ Q := OpT.store h1 h2 hb hk ho1 ho hcs hbs hq
theorem T.appNil {k bytes : Nat} {zs : Cells} {B : AV} (h1 : St.opv ⟨tm, bs, ar⟩ x = .val (.slice none 0 0)) (h2 : St.opv ⟨tm, bs, ar⟩ y = B) (hB : B.Src k zs) (hi : growInfo P t e k bytes = true) (hsmall : zs.length * bytes ≤ 140737488355328) (hd : dn < N) (hf : St.free ⟨tm, bs, ar⟩ dn = true)
    (hq : Q ⟨(dn, .row dn e k zs) :: tm, bs, ar⟩) : OpT P N K0 w0 ⟨some dn, .call { callee := .builtin .append, args := #[x, y], argTypes := #[t, t] }, ty, pos, aft, g⟩ ⟨tm, bs, ar⟩ Q := OpT.appNil h1 h2 hB hi hsmall hd hf hq
theorem T.app {k bytes r : Nat} {xs zs : Cells} {B : AV} (h1 : St.opv ⟨tm, bs, ar⟩ x = .row r e k xs) (h2 : St.opv ⟨tm, bs, ar⟩ y = B) (hB : B.Src k zs) (hi : growInfo P t e k bytes = true) (hsmall : (xs.length + zs.length) * bytes ≤ 140737488355328) (hd : dn < N)
    {T : St} (hT : St.unrow ⟨tm, bs, ar⟩ r = T) (hfT : T.free dn = true) (hq : Q (T.put dn (.row dn e k (xs ++ zs)))) : OpT P N K0 w0 ⟨some dn, .call { callee := .builtin .append, args := #[x, y], argTypes := #[t, t] }, ty, pos, aft, g⟩ ⟨tm, bs, ar⟩ Q := by
  subst hT
  intro K n a w hs
  have e1 := hs.opv x
  have e2 := hs.opv y
  rw [h1] at e1
  rw [h2] at e2
  obtain ⟨e1, hsl⟩ := e1
  have hhas : St.has ⟨tm, bs, ar⟩ (.row r e k xs) := St.opv_has (x := x) (by rw [h1]; exact .inl rfl)
  obtain ⟨q1, q2⟩ := hs.row r e k xs hhas
  have hs2 : Sim N K0 w0 (St.unrow ⟨tm, bs, ar⟩ r) K n a w := hs.weak (St.unrow_wk _ r) (fun b c1 c2 p1 p2 => by
    obtain ⟨⟨d1, cs1⟩, m1, f1⟩ := List.mem_map.1 p1
    obtain ⟨⟨d2, cs2⟩, m2, f2⟩ := List.mem_map.1 p2
    injection f1 with f1 f1'
    injection f2 with f2 f2'
    subst f1 f1' f2'
    simp only at f2
    subst f2
    rw [hs.boxOne _ _ _ m1 m2])
  refine app_core hs2 (xs := xs) (zs := zs) (B := B) hi rfl (by rw [show a.eval x = n.ρ r from e1]; exact q1) (fun g hg => ?_) (by rw [show a.eval x = n.ρ r from e1] at *; exact hsl) (hB.slice e2) hsmall hd hfT hq
  rw [show a.eval x = n.ρ r from e1] at hg
  refine ⟨(q2 g hg).1, fun b cs hb => ?_, fun r' e' k' xs' hr' hρ => ?_, fun d' A hd' hρ => (hs.arr d' A hd').2.2 g hρ |>.2.2.2 r e k xs hhas hg⟩
  · obtain ⟨⟨d1, cs1⟩, m1, f1⟩ := List.mem_map.1 hb
    injection f1 with f1 _
    subst f1
    exact (q2 g hg).2 d1 cs1 m1
  · have hne := St.unrow_has hr'
    exact hne (hs.rowInj r' e' k' xs' r e k xs g ((St.unrow_wk _ r).has hr') hhas hρ hg)
theorem T.callRow {f : FuncId} {fn : Func} {c : Code} {args : Array Operand} {ats : Array TypeId} {As : List AV} {r k : Nat} {xs : Cells} (hf : P.funcs[f]? = some fn) (hname : (fn.name == "runtime.NumGoroutine") = false) (hb : fn.body = some c)
    (hargs : (args.toList.map fun x => (St.opv ⟨tm, bs, ar⟩ x).arg) = As) (hg : Good P f As (.row r e k xs)) (hd : dn < N) (hfr : St.free ⟨tm, bs, ar⟩ dn = true) (hq : Q ⟨(dn, .row dn e k xs) :: tm, bs, ar⟩) : OpT P N K0 w0 ⟨some dn, .call { callee := .value (.func f), args := args, argTypes := ats }, ty, pos, aft, g⟩ ⟨tm, bs, ar⟩ Q := OpT.callRow hf hname hb (by subst hargs; exact Args.of_map _) hg hd hfr hq
theorem OpH.callFW {f : FuncId} {fn : Func} {c : Code} {args : Array Operand} {ats : Array TypeId} {As : List AV} {r e k : Nat} {xs : Cells} (hf : P.funcs[f]? = some fn) (hname : (fn.name == "runtime.NumGoroutine") = false) (hb : fn.body = some c)
    (hargs : (args.toList.map fun x => (S.opv x).arg) = As) (hg : Good P f As (.row r e k xs)) : OpH P N K0 w0 ⟨d, .call { callee := .value (.func f), args := args, argTypes := ats }, ty, pos, aft, g⟩ S (.sl k xs) := by
  refine OpH.callF hf hname hb hargs (res := .sl k xs) ?_ rfl
  intro K w cargs hok hlen hrep
  refine (hg K w cargs hok hlen hrep).mono ?_
  rintro e' w' ⟨c, K', rfl, h1, h2, h3, h4, ρ, h5, _⟩
  exact ⟨c, K', rfl, h1, h2, h3, h4, ρ, h5.2, fun r e k xs h => (by rcases h with h | ⟨_, h, _⟩ <;> cases h), fun r e k xs r' e' k' xs' g h => (by rcases h with h | ⟨_, h, _⟩ <;> cases h)⟩
theorem Sub.mk {S : St} {l : List (Nat × AV)} {bs : List (Nat × List AV)} {ar : List (Nat × Arr)} (h1 : Relab ar S [] l) (h2 : KeepB ar S bs) (h3 : KeepA S ar) : Sub S ⟨l, bs, ar⟩ := ⟨h1, h2, h3⟩
theorem KeepB.same {S : St} {d : Nat} {cs : List AV} {l : List (Nat × List AV)} (h : getB S.boxes d = some cs) (hn : cs.all AV.noRow = true) (hn2 : l.all (fun p => !(Nat.beq p.1 d)) = true) (t : KeepB ar S l) : KeepB ar S ((d, cs) :: l) :=
  .cons h rfl (fun i c c' h1 h2 => by rw [h1] at h2; injection h2 with h2; exact .keep h2 (List.all_eq_true.1 hn c' (by rw [← h2]; exact List.mem_of_getElem? h1))) hn2 t
def AV.okIn (ar : List (Nat × Arr)) (A : AV) : Bool := A.noRow || (match A.aname with | some d => hasA ar d | none => false)
theorem KeepB.sameA {S : St} {d : Nat} {cs : List AV} {l : List (Nat × List AV)} (h : getB S.boxes d = some cs) (hn : cs.all (AV.okIn ar) = true) (hn2 : l.all (fun p => !(Nat.beq p.1 d)) = true) (t : KeepB ar S l) : KeepB ar S ((d, cs) :: l) :=
  .cons h rfl (fun i c c' h1 h2 => by
    rw [h1] at h2; injection h2 with h2
    have := List.all_eq_true.1 hn c' (by rw [← h2]; exact List.mem_of_getElem? h1)
    simp only [AV.okIn, Bool.or_eq_true] at this
    rcases this with this | this
    · exact .keep h2 this
    · split at this
      · rename_i q hq; exact .aref h2 hq this
      · cases this) hn2 t
theorem CT.condD {c1 : Code} {q : Prop} [Decidable q] (hc : St.opv ⟨tm, bs, ar⟩ x = .val (.bool (decide q))) (ht : q → CT P N K0 w0 c1 ⟨tm, bs, ar⟩ QE) (hf : ¬ q → CT P N K0 w0 c2 ⟨tm, bs, ar⟩ QE) : CT P N K0 w0 (.cond x c1 c2) ⟨tm, bs, ar⟩ QE :=
  CT.cond hc (fun h => ht (of_decide_eq_true h)) (fun h => hf (of_decide_eq_false h))
theorem CT.condN {c1 : Code} {q : Prop} [Decidable q] (hc : St.opv ⟨tm, bs, ar⟩ x = .val (.bool (!decide q))) (ht : ¬ q → CT P N K0 w0 c1 ⟨tm, bs, ar⟩ QE) (hf : q → CT P N K0 w0 c2 ⟨tm, bs, ar⟩ QE) : CT P N K0 w0 (.cond x c1 c2) ⟨tm, bs, ar⟩ QE :=
  CT.cond hc (fun h => ht (by simpa using h)) (fun h => hf (by simpa using h))
theorem LT.partD {ops : Array Oper} {l : List Oper} {op : Op} {g' : Nat} {want : Bool} {o : Option Nat} {dg : Nat} {q : Prop} [Decidable q] (h1 : dstAt ops g' = some dg) (h2 : getT tm dg = .val (.bool (decide q)))
    (ht : q → LT P N K0 w0 ops (⟨o, op, ty, pos, aft, some (g', want)⟩ :: l) ⟨(dg, .val (.bool true)) :: tm, bs, ar⟩ Q) (hf : ¬ q → LT P N K0 w0 ops (⟨o, op, ty, pos, aft, some (g', want)⟩ :: l) ⟨(dg, .val (.bool false)) :: tm, bs, ar⟩ Q) : LT P N K0 w0 ops (⟨o, op, ty, pos, aft, some (g', want)⟩ :: l) ⟨tm, bs, ar⟩ Q :=
  LT.part (t := dg) h2 (fun h => ht (of_decide_eq_true h)) (fun h => hf (of_decide_eq_false h))
theorem HT.partD {ops : Array Oper} {l l' : List Oper} {op : Op} {g' : Nat} {want : Bool} {o : Option Nat} {dg : Nat} {q : Prop} [Decidable q] (h1 : dstAt ops g' = some dg) (h2 : getT tm dg = .val (.bool (decide q)))
    (ht : q → HT P N K0 w0 ops (⟨o, op, ty, pos, aft, some (g', want)⟩ :: l) ⟨(dg, .val (.bool true)) :: tm, bs, ar⟩ fun S' => LT P N K0 w0 ops l' S' Q) (hf : ¬ q → HT P N K0 w0 ops (⟨o, op, ty, pos, aft, some (g', want)⟩ :: l) ⟨(dg, .val (.bool false)) :: tm, bs, ar⟩ fun S' => LT P N K0 w0 ops l' S' Q) :
    HT P N K0 w0 ops (⟨o, op, ty, pos, aft, some (g', want)⟩ :: l) ⟨tm, bs, ar⟩ fun S' => LT P N K0 w0 ops l' S' Q :=
  HT.part (t := dg) h2 (fun h => ht (of_decide_eq_true h)) (fun h => hf (of_decide_eq_false h))
theorem LT.partN {ops : Array Oper} {l : List Oper} {op : Op} {g' : Nat} {want : Bool} {o : Option Nat} {dg : Nat} {q : Prop} [Decidable q] (h1 : dstAt ops g' = some dg) (h2 : getT tm dg = .val (.bool (!decide q)))
    (ht : ¬ q → LT P N K0 w0 ops (⟨o, op, ty, pos, aft, some (g', want)⟩ :: l) ⟨(dg, .val (.bool true)) :: tm, bs, ar⟩ Q) (hf : q → LT P N K0 w0 ops (⟨o, op, ty, pos, aft, some (g', want)⟩ :: l) ⟨(dg, .val (.bool false)) :: tm, bs, ar⟩ Q) : LT P N K0 w0 ops (⟨o, op, ty, pos, aft, some (g', want)⟩ :: l) ⟨tm, bs, ar⟩ Q :=
  LT.part (t := dg) h2 (fun h => ht (by simpa using h)) (fun h => hf (by simpa using h))
theorem HT.partN {ops : Array Oper} {l l' : List Oper} {op : Op} {g' : Nat} {want : Bool} {o : Option Nat} {dg : Nat} {q : Prop} [Decidable q] (h1 : dstAt ops g' = some dg) (h2 : getT tm dg = .val (.bool (!decide q)))
    (ht : ¬ q → HT P N K0 w0 ops (⟨o, op, ty, pos, aft, some (g', want)⟩ :: l) ⟨(dg, .val (.bool true)) :: tm, bs, ar⟩ fun S' => LT P N K0 w0 ops l' S' Q) (hf : q → HT P N K0 w0 ops (⟨o, op, ty, pos, aft, some (g', want)⟩ :: l) ⟨(dg, .val (.bool false)) :: tm, bs, ar⟩ fun S' => LT P N K0 w0 ops l' S' Q) :
    HT P N K0 w0 ops (⟨o, op, ty, pos, aft, some (g', want)⟩ :: l) ⟨tm, bs, ar⟩ fun S' => LT P N K0 w0 ops l' S' Q :=
  HT.part (t := dg) h2 (fun h => ht (by simpa using h)) (fun h => hf (by simpa using h))
end
/-! ### Side conditions, by rote -/
theorem bd {p : Prop} (h : p := by first | omega | (simp; omega) | simp) : p := h
theorem szP {p : Prop} (h : p := by first | omega | (simp only [List.length_map, List.length_cons, List.length_nil, List.length_take, List.length_drop, List.length_append, List.length_reverse]; omega) | (simp; omega)) : p := h
theorem slP {A : AV} {k : Nat} {xs : Cells} (h : A.Sl k xs := by first | exact .sl _ _ | exact .row _ _ _ _ | exact .full _ _) : A.Sl k xs := h
theorem srP {A : AV} {k : Nat} {xs : Cells} (h : A.Src k xs := by first | exact .s (.sl _ _) | exact .s (.row _ _ _ _) | exact .s (.full _ _) | exact .nil) : A.Src k xs := h
end Go.Proofs.YtjmnnkhdadoehaaGreat
