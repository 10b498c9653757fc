/- Abstract walks: writing into rows in place. -/
import Derived.Test.YtjmnnkhdadoehaaZAbs3
namespace Go.Proofs.Ytjmnnkhdadoehaa
set_option linter.unusedSimpArgs false
set_option linter.unusedVariables false
open Go Go.RowKit Go.Shelf

section
variable {P : Program} {N : Nat} {K0 : Know} {w0 : Bas} {S S' : St} {K K' : Know} {n : Nm} {a : Act} {w w' : World} {Q : St → Prop}
variable {dO : Option Nat} {ty : TypeId} {pos : String} {aft : Array Edge} {g : Option (Nat × Bool)} {t e : TypeId} {x y : Operand} {tm : List (Nat × AV)} {bs : List (Nat × List AV)} {ar : List (Nat × Arr)} {dn : Nat}

theorem Sim.freshArr (hs : Sim N K0 w0 S K n a w) (hb : Below w.heap.size w w') {s d : Nat} (hd : s < N) (hf : S.free d = true) {e k base : Nat} {xs : Cells} {c : Value} (hown : w'.ownsRow base e k c xs.length xs.flatten) (hbase : w.heap.size ≤ base) (hok : Arr.ok ⟨e, k, xs⟩) :
    Sim N K0 w0 ⟨(s, .arow d) :: S.tmps, S.boxes, (d, ⟨e, k, xs⟩) :: S.arrs⟩ K (n.setρ d c) (a.put (some s) c) w' := by
  have hs' := hs.grow (K' := K) hb (Know.le_refl K) (Know.below hs.ok hb) (fun _ _ _ h _ => h)
  refine hs'.putArr hd hf (own_base0 hown) hok fun gb hg => ?_
  have hge : w.heap.size ≤ gb := Nat.le_trans hbase (own_block_lt hown hg).1
  refine ⟨.inl (Nat.le_trans hs.base hge), fun o => ?_, fun b cs hbx he => ?_, fun r' e' k' xs' hr' he => ?_, fun d' A hd' he => ?_⟩
  · cases hk : K gb o with
    | none => rfl
    | some v => have := Know.lt hs.ok hk; omega
  · obtain ⟨b', arr, ty', q1, _, q3, _⟩ := hs.box b cs hbx
    rw [he] at q1
    injection q1 with q1
    subst q1
    have hlt := (Array.getElem?_eq_some_iff.1 q3).1
    omega
  · have := (own_block_lt (hs.row r' e' k' xs' hr').1 he).2
    omega
  · have := (own_block_lt (hs.arr d' A hd').1 he).2
    omega
theorem T.appA {k bytes d : Nat} {xs zs : Cells} {B : AV} (h1 : St.opv ⟨tm, bs, ar⟩ x = .arow d) (hA : getA ar d = some ⟨e, k, xs⟩) (h2 : St.opv ⟨tm, bs, ar⟩ y = B) (hB : B.Src k zs) (hi : growInfo P t e k bytes = true) (hsmall : (xs.length + zs.length) * bytes ≤ 140737488355328) (hd : dn < N)
    {T : St} (hT : St.unarr ⟨tm, bs, ar⟩ d = T) (hfT : T.free d = true) (hq : Q ⟨(dn, .arow d) :: T.tmps, T.boxes, (d, ⟨e, k, xs ++ zs⟩) :: T.arrs⟩) : OpT P N K0 w0 ⟨some dn, .call { callee := .builtin .append, args := #[x, y], argTypes := #[t, t] }, ty, pos, aft, g⟩ ⟨tm, bs, ar⟩ Q := by
  subst hT
  intro K n a w hs
  have e1 := hs.opv x
  have e2 := hs.opv y
  rw [h1] at e1
  rw [h2] at e2
  obtain ⟨i, z, hu, hie, hz, hk, hb, hzs, hk0, hb0⟩ := growInfo_spec hi
  subst hk hb
  have hm : (d, (⟨e, i.size, xs⟩ : Arr)) ∈ (⟨tm, bs, ar⟩ : St).arrs := getA_mem hA
  obtain ⟨q1, q2, q3⟩ := hs.arr d _ hm
  obtain ⟨A, cap, e3, h3, h4, hr⟩ := hB.slice e2
  have hok : Arr.ok ⟨e, i.size, xs ++ zs⟩ := fun u hu => by
    rcases List.mem_append.1 hu with hu | hu
    · exact q2 u hu
    · exact ⟨hr.lens u hu, fun v hv => List.all_eq_true.1 (List.all_eq_true.1 hr.ones u hu) v hv⟩
  have hn : xs.length + zs.length ≤ 140737488355328 := Nat.le_trans (Nat.le_mul_of_pos_right _ hb0) hsmall
  have hs2 := hs.unarr d
  have hsv : a.eval x = n.ρ d := e1
  cases A with
  | none =>
    have hz0 : zs = [] := hr.none_nil
    subst hz0
    rw [h4 rfl] at e3
    have hrun := run_append_owned_none (P := P) w 0 t ty e i i.size hu hie (n.ρ d) xs.length xs.flatten q1
    unfold Oper.wp
    simp only [List.length_nil] at e3
    have hr2 : (execOp a.eval ⟨some dn, .call { callee := .builtin .append, args := #[x, y], argTypes := #[t, t] }, ty, pos, aft, g⟩).run P w = .ok (.value (n.ρ d)) w := by
      simp [execOp, resolve, invoke, builtin, hsv, e3, hrun, Result.andThen]
    rw [hr2]
    exact ⟨K, _, _, hq, hs2.putArr hd hfT (by simpa using q1) hok fun gb hg => hs.apart hm hg⟩
  | some ad =>
    have hfl : zs.flatten.length = zs.length * i.size := flatten_len hr.lens
    obtain ⟨v1, w1, hrun, h5, h6, h7⟩ := run_app (P := P) w 0 t ty e i z hu hie hz hzs hk0 (n.ρ d) xs.length xs.flatten q1 ad zs.length cap zs.flatten hfl
      (fun j u hj => by obtain ⟨b, off, e9, h9⟩ := hr.flat j u hj; rw [e9, Addr.add_mid]; exact hs.ok _ _ _ h9)
      (fun u hu => by obtain ⟨y, hy, hu⟩ := List.mem_flatten.1 hu; exact List.all_eq_true.1 (List.all_eq_true.1 hr.ones y hy) u hu)
      (by unfold maxLen; omega) hsmall (Nat.zero_le _)
    unfold Oper.wp
    have hr2 : (execOp a.eval ⟨some dn, .call { callee := .builtin .append, args := #[x, y], argTypes := #[t, t] }, ty, pos, aft, g⟩).run P w = .ok (.value v1) w1 := by
      simp [execOp, resolve, invoke, builtin, hsv, e3, hrun, Result.andThen]
    rw [hr2]
    have hs3 := hs2.elsewhere h6 (own_cells q1) (fun gb hg => hs.apart hm hg)
    refine ⟨K, _, _, hq, hs3.putArr hd hfT (by rw [List.length_append, List.flatten_append]; exact h5) hok fun gb hg => ?_⟩
    rcases h7 with h7 | ⟨h7, _⟩
    · rw [h7] at hg; exact hs.apart hm hg
    · rw [h7] at hg
      injection hg with hg
      subst hg
      refine ⟨.inl hs.base, fun o => ?_, fun b cs hbx he => ?_, fun r' e' k' xs' hr' he => ?_, fun d' A hd' he => ?_⟩
      · cases hk : K w.heap.size o with
        | none => rfl
        | some v => exact absurd (Know.lt hs.ok hk) (Nat.lt_irrefl _)
      · obtain ⟨b', arr, ty', p1, _, p3, _⟩ := hs2.box b cs hbx
        rw [he] at p1
        injection p1 with p1
        subst p1
        exact absurd (Array.getElem?_eq_some_iff.1 p3).1 (Nat.lt_irrefl _)
      · exact absurd (own_block_lt (hs2.row r' e' k' xs' hr').1 he).2 (Nat.lt_irrefl _)
      · exact absurd (own_block_lt (hs2.arr d' A hd').1 he).2 (Nat.lt_irrefl _)
/-! ### Steps of the proof alone -/
def AV.froz1 (d e k : Nat) (xs : Cells) : AV → AV
  | .arow d' => cond (Nat.beq d' d) (.row d e k xs) (.arow d')
  | .aptr d' k' j o => cond (Nat.beq d' d) .dead (.aptr d' k' j o)
  | .asub d' k' l m => cond (Nat.beq d' d) .dead (.asub d' k' l m)
  | A => A
def St.froz (S : St) (d e k : Nat) (xs : Cells) : St := ⟨S.tmps.map fun p => (p.1, p.2.map1 (AV.froz1 d e k xs)), S.boxes.map fun p => (p.1, p.2.map (AV.froz1 d e k xs)), S.arrs.filter fun p => !(Nat.beq p.1 d)⟩
theorem froz1_row {d e k : Nat} {xs : Cells} {A : AV} {r e' k' : Nat} {xs' : Cells} (h : A.froz1 d e k xs = .row r e' k' xs') : A = .row r e' k' xs' ∨ (r = d ∧ e' = e ∧ k' = k ∧ xs' = xs) := by
  cases A with
  | arow d' =>
    simp only [AV.froz1] at h
    cases hb : Nat.beq d' d with
    | true => rw [hb] at h; injection h with q1 q2 q3 q4; exact .inr ⟨q1.symm, q2.symm, q3.symm, q4.symm⟩
    | false => rw [hb] at h; cases h
  | aptr d' k1 j o => simp only [AV.froz1] at h; cases hb : Nat.beq d' d <;> rw [hb] at h <;> cases h
  | asub d' k1 l m => simp only [AV.froz1] at h; cases hb : Nat.beq d' d <;> rw [hb] at h <;> cases h
  | _ => exact .inl h
theorem froz_of {d e k : Nat} {xs : Cells} {A : AV} {r e' k' : Nat} {xs' : Cells} (h : (AV.row r e' k' xs').of (A.map1 (AV.froz1 d e k xs))) : (AV.row r e' k' xs').of A ∨ (r = d ∧ e' = e ∧ k' = k ∧ xs' = xs) := by
  have key : A.froz1 d e k xs = .row r e' k' xs' → (AV.row r e' k' xs').of A ∨ (r = d ∧ e' = e ∧ k' = k ∧ xs' = xs) := fun h => (froz1_row h).imp (fun h => .inl h) id
  cases A with
  | tup vs =>
    rcases h with h | ⟨us, h, hm⟩
    · cases h
    · simp only [AV.map1] at h
      injection h with h
      subst h
      obtain ⟨B, hB, e1⟩ := List.mem_map.1 hm
      rcases froz1_row e1 with q | q
      · exact .inl (.inr ⟨vs, rfl, by rw [← q]; exact hB⟩)
      · exact .inr q
  | arow d' =>
    rcases h with h | ⟨us, h, hm⟩
    · exact key h
    · simp only [AV.map1, AV.froz1] at h; cases hb : Nat.beq d' d <;> rw [hb] at h <;> cases h
  | aptr d' k1 j o =>
    rcases h with h | ⟨us, h, hm⟩
    · exact key h
    · simp only [AV.map1, AV.froz1] at h; cases hb : Nat.beq d' d <;> rw [hb] at h <;> cases h
  | asub d' k1 j o =>
    rcases h with h | ⟨us, h, hm⟩
    · exact key h
    · simp only [AV.map1, AV.froz1] at h; cases hb : Nat.beq d' d <;> rw [hb] at h <;> cases h
  | dead => exact .inl h
  | val v => exact .inl h
  | sl k xs => exact .inl h
  | full k xs => exact .inl h
  | cptr vs => exact .inl h
  | clo f cs => exact .inl h
  | row r' e k xs => exact .inl h
  | ptr d o => exact .inl h
  | cloB f ds => exact .inl h
  | pr p => exact .inl h
theorem Sim.froz (h : Sim N K0 w0 S K n a w) (hno : ∀ g, ¬ w0.own g) {d e k : Nat} {xs : Cells} (hm : (d, ⟨e, k, xs⟩) ∈ S.arrs) : ∃ K', Sim N K0 w0 (S.froz d e k xs) K' n a w := by
  obtain ⟨q1, q2, q3⟩ := h.arr d _ hm
  let K' : Know := fun b o => if (n.ρ d).ownBlock = some b then xs.flatten[o]? else K b o
  have hne : ∀ b o u, K b o = some u → (n.ρ d).ownBlock ≠ some b := fun b o u hu hb => by rw [(q3 b hb).2.1 o] at hu; cases hu
  have hle : Know.le K K' := fun b o u hu => by simp only [K', if_neg (hne b o u hu)]; exact hu
  have hbase : ∀ gb, (n.ρ d).ownBlock = some gb → w0.w.heap.size ≤ gb := fun gb hg => by
    rcases (q3 gb hg).1 with q | q
    · exact q
    · exact absurd q (hno gb)
  have hok : K'.ok w := fun b o u hu => by
    simp only [K'] at hu
    split at hu
    · rename_i hb
      have := q1.cells hb o u hu
      rwa [Addr.add_mid, Nat.zero_add] at this
    · exact h.ok b o u hu
  have hslice : Slice K' k xs (n.ρ d) := own_slice q1 (fun gb hg o u hu => by simp only [K', if_pos hg]; exact hu) (Arr.ok_len q2) (Arr.ok_one q2)
  have hrep1 : ∀ A c, Rep1 K n A c → Rep1 K' n (A.froz1 d e k xs) c := fun A c hr => by
    cases A with
    | arow d' =>
      simp only [AV.froz1]
      cases hb : Nat.beq d' d with
      | true => have := Nat.eq_of_beq_eq_true hb; subst this; have hr' : c = n.ρ d' := hr; exact ⟨hr', by rw [hr']; exact hslice⟩
      | false => exact hr
    | aptr d' k1 j o =>
      simp only [AV.froz1]
      cases hb : Nat.beq d' d with
      | true => trivial
      | false => exact hr
    | asub d' k1 l m =>
      simp only [AV.froz1]
      cases hb : Nat.beq d' d with
      | true => trivial
      | false => exact hr
    | dead => exact hr.mono hle
    | val v => exact hr.mono hle
    | sl k xs => exact hr.mono hle
    | full k xs => exact hr.mono hle
    | cptr vs => exact hr.mono hle
    | clo f cs => exact hr.mono hle
    | row r' e k xs => exact hr.mono hle
    | ptr d o => exact hr.mono hle
    | cloB f ds => exact hr.mono hle
    | pr p => exact hr.mono hle
    | tup vs => exact hr.elim
  have hrep : ∀ A c, Rep K n A c → Rep K' n (A.map1 (AV.froz1 d e k xs)) c := fun A c hr => by
    cases A with
    | tup vs =>
      obtain ⟨cs, e1, h1, h2⟩ := hr
      refine ⟨cs, e1, by simpa using h1, fun i v hv => ?_⟩
      rw [List.getElem?_map, Option.map_eq_some_iff] at hv
      obtain ⟨u, hu, rfl⟩ := hv
      exact hrep1 u _ (h2 i u hu)
    | dead => exact Rep.of1 (hrep1 .dead c hr)
    | val v => exact Rep.of1 (hrep1 (.val v) c hr)
    | sl k xs => exact Rep.of1 (hrep1 (.sl k xs) c hr)
    | full k xs => exact Rep.of1 (hrep1 (.full k xs) c hr)
    | cptr vs => exact Rep.of1 (hrep1 (.cptr vs) c hr)
    | clo f cs => exact Rep.of1 (hrep1 (.clo f cs) c hr)
    | row r' e k xs => exact Rep.of1 (hrep1 (.row r' e k xs) c hr)
    | ptr d o => exact Rep.of1 (hrep1 (.ptr d o) c hr)
    | cloB f ds => exact Rep.of1 (hrep1 (.cloB f ds) c hr)
    | pr p => exact Rep.of1 (hrep1 (.pr p) c hr)
    | arow d' => exact Rep.of1 (hrep1 (.arow d') c hr)
    | aptr d' k1 j o => exact Rep.of1 (hrep1 (.aptr d' k1 j o) c hr)
    | asub d' k1 l m => exact Rep.of1 (hrep1 (.asub d' k1 l m) c hr)
  have hbx : ∀ b cs', (b, cs') ∈ (S.froz d e k xs).boxes → ∃ cs, (b, cs) ∈ S.boxes ∧ cs' = cs.map (AV.froz1 d e k xs) := fun b cs' hb => by
    obtain ⟨⟨b0, cs⟩, hm2, e1⟩ := List.mem_map.1 hb
    injection e1 with e1 e2
    subst e1 e2
    exact ⟨cs, hm2, rfl⟩
  have hhas : ∀ r e' k' xs', (S.froz d e k xs).has (.row r e' k' xs') → S.has (.row r e' k' xs') ∨ (r = d ∧ e' = e ∧ k' = k ∧ xs' = xs) := fun r e' k' xs' hr => by
    rcases hr with ⟨t, ht⟩ | ⟨b, cs', hb, hmem⟩
    · have e1 : (S.froz d e k xs).get t = (S.get t).map1 (AV.froz1 d e k xs) := getT_map (AV.map1 (AV.froz1 d e k xs)) rfl S.tmps t
      rw [e1] at ht
      exact (froz_of ht).imp (fun h => .inl ⟨t, h⟩) id
    · obtain ⟨cs, hb', rfl⟩ := hbx b cs' hb
      obtain ⟨B, hB, e1⟩ := List.mem_map.1 hmem
      rcases froz1_row e1 with q | q
      · exact .inl (.inr ⟨b, cs, hb', by rw [← q]; exact hB⟩)
      · exact .inr q
  have hnew : ∀ gb, (n.ρ d).ownBlock = some gb → ∀ o u, K' gb o = some u → o < xs.length * k := fun gb hg o u hu => by
    simp only [K', if_pos hg] at hu
    have := (List.getElem?_eq_some_iff.1 hu).1
    rwa [q1.1] at this
  refine ⟨K', {
    size := h.size
    defers := h.defers
    below := h.below
    k0 := Know.le_trans h.k0 hle
    knew := fun b o u hu hlt => by
      simp only [K'] at hu
      split at hu
      · rename_i hb; have := hbase b hb; omega
      · exact h.knew b o u hu hlt
    ok := hok
    tmp := fun t => by
      have e1 : (S.froz d e k xs).get t = (S.get t).map1 (AV.froz1 d e k xs) := getT_map (AV.map1 (AV.froz1 d e k xs)) rfl S.tmps t
      rw [e1]
      exact hrep _ _ (h.tmp t)
    box := fun b cs' hb => by
      obtain ⟨cs, hb', rfl⟩ := hbx b cs' hb
      obtain ⟨b', arr, ty, p1, p2, p3, p4, p5, p6⟩ := h.box b cs hb'
      refine ⟨b', arr, ty, p1, p2, p3, by simpa using p4, fun i c hi => ?_, fun o => ?_⟩
      · rw [List.getElem?_map, Option.map_eq_some_iff] at hi
        obtain ⟨u, hu, rfl⟩ := hi
        exact hrep1 u _ (p5 i u hu)
      · simp only [K']
        rw [if_neg (fun he => (q3 b' he).2.2.1 b cs hb' p1)]
        exact p6 o
    boxInj := fun d1 c1 d2 c2 b p1 p2 => by
      obtain ⟨c1', u1, _⟩ := hbx d1 c1 p1
      obtain ⟨c2', u2, _⟩ := hbx d2 c2 p2
      exact h.boxInj d1 c1' d2 c2' b u1 u2
    boxOne := fun d1 c1 c2 p1 p2 => by
      obtain ⟨c1', u1, rfl⟩ := hbx d1 c1 p1
      obtain ⟨c2', u2, rfl⟩ := hbx d1 c2 p2
      rw [h.boxOne d1 c1' c2' u1 u2]
    row := fun r e' k' xs' hr => by
      rcases hhas r e' k' xs' hr with hr | ⟨rfl, rfl, rfl, rfl⟩
      · obtain ⟨p1, p2⟩ := h.row r e' k' xs' hr
        refine ⟨p1, fun gb hg => ⟨fun o u hu => ?_, fun b cs' hb => ?_⟩⟩
        · simp only [K'] at hu
          rw [if_neg (fun he => (q3 gb he).2.2.2 r e' k' xs' hr hg)] at hu
          exact (p2 gb hg).1 o u hu
        · obtain ⟨cs, hb', _⟩ := hbx b cs' hb
          exact (p2 gb hg).2 b cs hb'
      · refine ⟨own_up q1 hbase, fun gb hg => ⟨hnew gb hg, fun b cs' hb => ?_⟩⟩
        obtain ⟨cs, hb', _⟩ := hbx b cs' hb
        exact (q3 gb hg).2.2.1 b cs hb'
    rowInj := fun r1 e1 k1 xs1 r2 e2 k2 xs2 gb p1 p2 g1 g2 => by
      rcases hhas _ _ _ _ p1 with u1 | ⟨z1, _, _, _⟩ <;> rcases hhas _ _ _ _ p2 with u2 | ⟨z2, _, _, _⟩
      · exact h.rowInj r1 e1 k1 xs1 r2 e2 k2 xs2 gb u1 u2 g1 g2
      · rw [z2] at g2; exact absurd g1 ((q3 gb g2).2.2.2 _ _ _ _ u1)
      · rw [z1] at g1; exact absurd g2 ((q3 gb g1).2.2.2 _ _ _ _ u2)
      · rw [z1, z2]
    arr := fun d' A hd' => by
      obtain ⟨u1, u2⟩ := List.mem_filter.1 hd'
      have hdd : d' ≠ d := by rintro rfl; simp at u2
      obtain ⟨p1, p2, p3⟩ := h.arr d' A u1
      have hgg : ∀ gb, (n.ρ d').ownBlock = some gb → (n.ρ d).ownBlock ≠ some gb := fun gb hg he => hdd (h.arrInj d' A d _ gb u1 hm hg he)
      refine ⟨p1, p2, fun gb hg => ⟨(p3 gb hg).1, fun o => ?_, fun b cs' hb => ?_, fun r e' k' xs' hr he => ?_⟩⟩
      · simp only [K', if_neg (hgg gb hg)]; exact (p3 gb hg).2.1 o
      · obtain ⟨cs, hb', _⟩ := hbx b cs' hb
        exact (p3 gb hg).2.2.1 b cs hb'
      · rcases hhas r e' k' xs' hr with hr | ⟨rfl, _, _, _⟩
        · exact (p3 gb hg).2.2.2 r e' k' xs' hr he
        · exact hgg gb hg he
    arrInj := fun d1 A1 d2 A2 gb p1 p2 => h.arrInj d1 A1 d2 A2 gb (List.mem_filter.1 p1).1 (List.mem_filter.1 p2).1
    arrOne := fun d1 A1 A2 p1 p2 => h.arrOne d1 A1 A2 (List.mem_filter.1 p1).1 (List.mem_filter.1 p2).1
    fix := h.fix }⟩
theorem CT.froz {QE : Exit → St → Prop} {c : Code} (hno : ∀ g, ¬ w0.own g) (d : Nat) {k : Nat} {xs : Cells} {T : St} (hA : getA ar d = some ⟨e, k, xs⟩) (hT : St.froz ⟨tm, bs, ar⟩ d e k xs = T) (h : CT P N K0 w0 c T QE) : CT P N K0 w0 c ⟨tm, bs, ar⟩ QE := fun K n a w hs => by
  subst hT
  obtain ⟨K', hs'⟩ := hs.froz hno (d := d) (getA_mem hA)
  exact h K' n a w hs'
theorem LT.froz {l : List Oper} {ops : Array Oper} (hno : ∀ g, ¬ w0.own g) (d : Nat) {k : Nat} {xs : Cells} {T : St} (hA : getA ar d = some ⟨e, k, xs⟩) (hT : St.froz ⟨tm, bs, ar⟩ d e k xs = T) (h : LT P N K0 w0 ops l T Q) : LT P N K0 w0 ops l ⟨tm, bs, ar⟩ Q := fun K n a w hs => by
  subst hT
  obtain ⟨K', hs'⟩ := hs.froz hno (d := d) (getA_mem hA)
  exact h K' n a w hs'
end
end Go.Proofs.Ytjmnnkhdadoehaa

/- -/

/- -/
