/- append; a function's body. -/
import Derived.Test.YtjgjohonbjmakaaAbsG
namespace Go.Proofs.Ytjgjohonbjmakaa
set_option linter.unusedSimpArgs false
set_option linter.unusedVariables false
open Go Go.RowKit Go.Shelf

theorem flatten_at : ∀ {xs : Cells} {k : Nat}, (∀ x ∈ xs, x.length = k) → ∀ (j : Nat) u, xs.flatten[j]? = some u → ∃ i x r, xs[i]? = some x ∧ x[r]? = some u ∧ j = i * k + r
  | [], _, _, j, u, h => by simp at h
  | y :: ys, k, hk, j, u, h => by
    have hy : y.length = k := hk y List.mem_cons_self
    rw [List.flatten_cons] at h
    by_cases hj : j < k
    · rw [List.getElem?_append_left (by rw [hy]; exact hj)] at h
      exact ⟨0, y, j, rfl, h, by omega⟩
    · rw [List.getElem?_append_right (by rw [hy]; omega), hy] at h
      obtain ⟨i, x, r, h1, h2, h3⟩ := flatten_at (fun x hx => hk x (List.mem_cons_of_mem _ hx)) (j - k) u h
      exact ⟨i + 1, x, r, by simpa using h1, h2, by rw [Nat.succ_mul]; omega⟩
theorem Rd.flat {K : Know} {k : Nat} {ad : Addr} {xs : Cells} (h : Rd K k (some ad) xs) : ∀ (j : Nat) u, xs.flatten[j]? = some u → ∃ b off, ad = ⟨b, off, none⟩ ∧ K b (off + j) = some u := by
  intro j u hu
  obtain ⟨i, x, r, h1, h2, h3⟩ := flatten_at (fun x hx => by obtain ⟨i, hi, e⟩ := List.getElem_of_mem hx; exact (h.2 i x (by rw [List.getElem?_eq_getElem hi, e])).1) j u hu
  obtain ⟨_, _, b, off, e, h4⟩ := h.2 i x h1
  injection e with e
  exact ⟨b, off, e, by rw [h3, ← Nat.add_assoc]; exact h4 r u h2⟩
theorem Rd.lens {K : Know} {k : Nat} {A : Option Addr} {xs : Cells} (h : Rd K k A xs) : ∀ x ∈ xs, x.length = k := fun x hx => by
  obtain ⟨i, hi, e⟩ := List.getElem_of_mem hx; exact (h.2 i x (by rw [List.getElem?_eq_getElem hi, e])).1
theorem Rd.ones {K : Know} {k : Nat} {A : Option Addr} {xs : Cells} (h : Rd K k A xs) : oneCells xs = true := by
  refine List.all_eq_true.2 fun x hx => List.all_eq_true.2 fun u hu => ?_
  obtain ⟨i, hi, e⟩ := List.getElem_of_mem hx
  exact (h.2 i x (by rw [List.getElem?_eq_getElem hi, e])).2.1 u hu
theorem oneCells_append {xs ys : Cells} (h1 : oneCells xs = true) (h2 : oneCells ys = true) : oneCells (xs ++ ys) = true := by
  unfold oneCells at *; rw [List.all_append, h1, h2]; rfl
/-- The row r is owned no more. -/
def St.unrow (S : St) (r : Nat) : St := ⟨S.tmps.map fun p => (p.1, p.2.map1 (AV.unrow1 r)), S.boxes.map fun p => (p.1, p.2.map (AV.unrow1 r))⟩
theorem unrow1_wk (r : Nat) (A : AV) : A.wk1 (A.unrow1 r) := by
  cases A with
  | row r' e k xs =>
    simp only [AV.unrow1]
    cases r' == r
    · exact .inl rfl
    · exact .inr (.inr (.inl ⟨r', e, k, xs, rfl, rfl⟩))
  | _ => exact .inl rfl
theorem unrow_wk (r : Nat) (A : AV) : A.wk (A.map1 (AV.unrow1 r)) := by
  cases A with
  | tup vs => exact .inr ⟨vs, vs.map (AV.unrow1 r), rfl, rfl, by simp, fun i v v' h1 h2 => by
      rw [List.getElem?_map, h1] at h2
      simp at h2
      subst h2
      exact unrow1_wk r v⟩
  | dead => exact .inl (unrow1_wk r _)
  | val v => exact .inl (unrow1_wk r _)
  | sl k xs => exact .inl (unrow1_wk r _)
  | full k xs => exact .inl (unrow1_wk r _)
  | cptr vs => exact .inl (unrow1_wk r _)
  | clo f cs => exact .inl (unrow1_wk r _)
  | row r' e k xs => exact .inl (unrow1_wk r _)
  | ptr d o => exact .inl (unrow1_wk r _)
  | cloB f ds => exact .inl (unrow1_wk r _)
  | pr p => exact .inl (unrow1_wk r _)
theorem getT_map (f : AV → AV) (hf : f .dead = .dead) : ∀ (l : List (Nat × AV)) (t : Nat), getT (l.map fun p => (p.1, f p.2)) t = f (getT l t)
  | [], _ => hf.symm
  | (s, A) :: l, t => by
    simp only [List.map_cons, getT]
    cases Nat.beq s t
    · exact getT_map f hf l t
    · rfl
theorem St.unrow_wk (S : St) (r : Nat) : S.wk (S.unrow r) := by
  refine ⟨fun t => ?_, fun d cs' h => ?_⟩
  · show AV.wk (getT S.tmps t) (getT (S.tmps.map _) t)
    rw [getT_map (AV.map1 (AV.unrow1 r)) rfl]
    exact Proofs.Ytjgjohonbjmakaa.unrow_wk r _
  · obtain ⟨⟨d', cs⟩, hm, e⟩ := List.mem_map.1 h
    injection e with e1 e2
    subst e1 e2
    refine ⟨cs, hm, by simp, fun i c c' h1 h2 => ?_⟩
    rw [List.getElem?_map, h1] at h2
    simp at h2
    subst h2
    exact unrow1_wk r c
theorem unrow1_ne {r : Nat} {A : AV} {r' e k : Nat} {xs : Cells} (h : A.unrow1 r = .row r' e k xs) : r' ≠ r := by
  cases A with
  | row r2 e2 k2 xs2 =>
    simp only [AV.unrow1] at h
    cases hb : r2 == r
    · rw [hb] at h
      injection h with h1
      subst h1
      simpa using hb
    · rw [hb] at h; cases h
  | _ => cases h
theorem St.unrow_has {S : St} {r r' e k : Nat} {xs : Cells} (h : (S.unrow r).has (.row r' e k xs)) : r' ≠ r := by
  rcases h with ⟨t, ht⟩ | ⟨d, cs', hd, hm⟩
  · have e1 : (S.unrow r).get t = (S.get t).map1 (AV.unrow1 r) := getT_map (AV.map1 (AV.unrow1 r)) rfl S.tmps t
    rw [e1] at ht
    generalize S.get t = A at ht
    cases A with
    | tup vs =>
      rcases ht with ht | ⟨us, ht, hm⟩
      · cases ht
      · simp only [AV.map1] at ht
        injection ht with ht
        subst ht
        obtain ⟨B, _, hB⟩ := List.mem_map.1 hm
        exact unrow1_ne hB
    | dead => rcases ht with ht | ⟨us, ht, hm⟩ <;> cases ht
    | val v => rcases ht with ht | ⟨us, ht, hm⟩ <;> cases ht
    | sl k xs => rcases ht with ht | ⟨us, ht, hm⟩ <;> cases ht
    | full k xs => rcases ht with ht | ⟨us, ht, hm⟩ <;> cases ht
    | cptr vs => rcases ht with ht | ⟨us, ht, hm⟩ <;> cases ht
    | clo f cs => rcases ht with ht | ⟨us, ht, hm⟩ <;> cases ht
    | ptr d o => rcases ht with ht | ⟨us, ht, hm⟩ <;> cases ht
    | cloB f ds => rcases ht with ht | ⟨us, ht, hm⟩ <;> cases ht
    | pr p => rcases ht with ht | ⟨us, ht, hm⟩ <;> cases ht
    | row r2 e2 k2 xs2 =>
      rcases ht with ht | ⟨us, ht, hm⟩
      · exact unrow1_ne (A := .row r2 e2 k2 xs2) ht
      · simp only [AV.map1, AV.unrow1] at ht
        cases hb : r2 == r <;> rw [hb] at ht <;> cases ht
  · obtain ⟨⟨d', cs⟩, _, e⟩ := List.mem_map.1 hd
    injection e with e1 e2
    subst e1 e2
    obtain ⟨B, _, hB⟩ := List.mem_map.1 hm
    exact unrow1_ne hB
section
variable {P : Program} {N : Nat} {K0 : Know} {w0 : World} {S S' : St} {Q : St → Prop} {o : Oper}
variable {d : Option Nat} {ty : TypeId} {pos : String} {aft : Array Edge} {g : Option (Nat × Bool)}

/-- Where the grown slice lies: where the old one lay, or in a new block, and then nothing old is written. -/
theorem run_app (w : World) (base : Nat) (t ty e : TypeId) (i : TypeInfo) (z : Value) (ht : P.underlying t = some (.slice e)) (hi : P.info? e = some i) (hz : i.zero = some z) (hzs : z.cells.size = i.size) (hsz : 0 < i.size)
    (v : Value) (n : Nat) (xs : List Value) (hown : w.ownsRow base e i.size v n xs) (a : Addr) (m c : Nat) (news : List Value) (hl : news.length = m * i.size) (hnews : ∀ j u, news[j]? = some u → w.cell? (a.add j) = some u) (h1 : ∀ u ∈ news, u.oneCell' = true)
    (h63 : n + m ≤ maxLen) (hbytes : (n + m) * i.bytes ≤ 140737488355328) (hbase : base ≤ w.heap.size) :
    ∃ v' w', (Builtin.append_ #[t, t] ty #[v, .slice (some a) m c]).run P w = .ok v' w' ∧ w'.ownsRow base e i.size v' (n + m) (xs ++ news) ∧ w.grownBy w' v.ownBlock ∧ (v'.ownBlock = v.ownBlock ∨ (v'.ownBlock = some w.heap.size ∧ Below w.heap.size w w')) := by
  obtain ⟨v', w', hr, h2, h3, h4, h5⟩ := run_append_own_at (P := P) w base t ty e i z i.size i.bytes ht hi hz rfl rfl hzs hsz v n xs hown a m c news hl hnews h1 h63 hbytes hbase
  refine ⟨v', w', hr, h2, h3, ?_⟩
  rcases h5 with h5 | h5
  · exact .inl h5
  · refine .inr ⟨h5, ?_⟩
    have hb : ∀ o : Obj, Below w.heap.size w (w.drew.alloc o) := fun o => ((Below.refl w.heap.size w).drew).alloc (Nat.le_refl _) o
    rcases hown.2 with ⟨rfl, rfl⟩ | ⟨g, cap, cur, rfl, hbg, hg, hnc, hcm, hcs, htake⟩
    · by_cases hm : m = 0
      · have := h4.2 ⟨rfl, hm⟩
        subst this
        cases h5
      · have hr' := run_append_nil (P := P) w t ty e i z ht hi hz a m c news hl hnews (by omega) (by unfold maxLen at h63; omega) (by have hb := hbytes; simp only [Nat.zero_add] at hb; omega)
        rw [hr] at hr'
        injection hr' with _ e2
        rw [e2]
        exact hb _
    · by_cases hroom : n + m ≤ cap
      · have hr' := run_append_room (P := P) w t ty e i ht hi g n cap cur hg a m c news hl hnews h1 hroom (by rw [hl, hcs, ← Nat.add_mul]; exact Nat.mul_le_mul_right _ hroom)
        rw [hr] at hr'
        injection hr' with e1 _
        rw [e1] at h5
        simp only [Value.ownBlock, Option.some.injEq] at h5
        exact absurd (Array.getElem?_eq_some_iff.1 hg).1 (by omega)
      · have holds : ∀ j u, xs[j]? = some u → w.cell? ((⟨g, 0, none⟩ : Addr).add j) = some u := hown.cells (g := g) rfl
        have hr' := run_append_grow (P := P) w t ty e i z ht hi hz ⟨g, 0, none⟩ n cap xs hown.1 holds a m c news hl hnews (by omega) (by unfold maxLen at h63; omega) (growslice_fits (by omega) hbytes)
        rw [hr] at hr'
        injection hr' with _ e2
        rw [e2]
        exact hb _
/-- What is owned reads. -/
theorem own_slice {w : World} {base e k : Nat} {v : Value} {xs : Cells} {K : Know} (h : w.ownsRow base e k v xs.length xs.flatten) (hK : ∀ g, v.ownBlock = some g → ∀ (o : Nat) u, xs.flatten[o]? = some u → K g o = some u) (hlen : ∀ x ∈ xs, x.length = k) (hone : oneCells xs = true) : Slice K k xs v := by
  rcases h.2 with ⟨rfl, h0⟩ | ⟨g, cap, cur, rfl, _, _, h1, h2, _⟩
  · have : xs = [] := List.eq_nil_of_length_eq_zero h0
    subst this
    exact ⟨none, 0, rfl, Nat.le_refl _, fun _ => rfl, Rd.nil_⟩
  · exact ⟨_, cap, rfl, h1, fun h => (by cases h), Rd.of_know (hK g rfl) hlen hone (by unfold maxLen at h2; omega)⟩
/-- A row grows; its token is given up ahead. -/
theorem Sim.app {K : Know} {n : Nm} {a : Act} {w w1 : World} (h : Sim N K0 w0 S K n a w) {v v1 : Value} {e k : Nat} {xs zs : Cells} (hown : w.ownsRow w0.heap.size e k v xs.length xs.flatten) (hlim : ∀ g, v.ownBlock = some g → (∀ o u, K g o = some u → o < xs.length * k) ∧ (∀ b cs, (b, cs) ∈ S.boxes → n.β b ≠ some g) ∧ ∀ r e' k' xs', S.has (.row r e' k' xs') → (n.ρ r).ownBlock ≠ some g)
    (hown1 : w1.ownsRow w0.heap.size e k v1 (xs ++ zs).length (xs ++ zs).flatten) (hg : w.grownBy w1 v.ownBlock) (hat : v1.ownBlock = v.ownBlock ∨ (v1.ownBlock = some w.heap.size ∧ Below w.heap.size w w1)) (hlen : ∀ x ∈ xs ++ zs, x.length = k) (hone : oneCells (xs ++ zs) = true)
    {d : Nat} (hd : d < N) (hf : S.free d = true) : ∃ K' n', Sim N K0 w0 (S.put d (.row d e k (xs ++ zs))) K' n' (a.put (some d) v1) w1 := by
  let K' : Know := fun b o => if v1.ownBlock = some b then (xs ++ zs).flatten[o]? else K b o
  have hfl : xs.flatten.length = xs.length * k := hown.1
  have hpre : ∀ b o u, v.ownBlock = some b → K b o = some u → xs.flatten[o]? = some u := fun b o u hb hu => by
    have ho := (hlim b hb).1 o u hu
    have hu2 : xs.flatten[o]? = some xs.flatten[o] := List.getElem?_eq_getElem (by rw [hfl]; exact ho)
    have h1 := hown.cells hb o _ hu2
    rw [Addr.add_mid, Nat.zero_add, h.ok b o u hu] at h1
    rw [hu2, ← h1]
  have hle : Know.le K K' := fun b o u hu => by
    simp only [K']
    split
    · rename_i hb
      rcases hat with hat | ⟨hat, _⟩
      · rw [hat] at hb
        have h1 := hpre b o u hb hu
        rw [List.flatten_append, List.getElem?_append_left (List.getElem?_eq_some_iff.1 h1).1]
        exact h1
      · rw [hat] at hb
        injection hb with hb
        subst hb
        exact absurd (Know.lt h.ok hu) (Nat.lt_irrefl _)
    · exact hu
  have hblk : ∀ b, b < w.heap.size → v1.ownBlock ≠ some b → w1.heap[b]? = w.heap[b]? := fun b hb h1 => by
    rcases hat with hat | ⟨_, hat⟩
    · exact hg.block b hb (fun e => h1 (by rw [hat, ← e]))
    · exact hat.block b hb
  have hok : K'.ok w1 := fun b o u hu => by
    simp only [K'] at hu
    split at hu
    · rename_i hb
      have := hown1.cells hb o u hu
      rwa [Addr.add_mid, Nat.zero_add] at this
    · rename_i hb
      have h1 := h.ok b o u hu
      have hlt := Know.lt h.ok hu
      simp only [World.cell?, hblk b hlt hb] at h1 ⊢
      exact h1
  have hnew : ∀ g, v1.ownBlock = some g → w0.heap.size ≤ g := fun g hg' => (own_block_lt hown1 hg').1
  have hbelow : Below w0.heap.size w w1 := ⟨hg.os, hg.tape, hg.output, hg.size, fun b hb => hblk b (Nat.lt_of_lt_of_le hb h.base) (fun e => by have := hnew b e; omega)⟩
  have hbox1 : ∀ b cs b', (b, cs) ∈ S.boxes → n.β b = some b' → v1.ownBlock ≠ some b' := fun b cs b' hb hβ he => by
    rcases hat with hat | ⟨hat, _⟩
    · rw [hat] at he; exact (hlim b' he).2.1 b cs hb hβ
    · rw [hat] at he
      injection he with he
      subst he
      obtain ⟨b2, arr, ty, q1, _, q3, _⟩ := h.box b cs hb
      rw [hβ] at q1; injection q1 with q1; subst q1
      exact absurd (Array.getElem?_eq_some_iff.1 q3).1 (Nat.lt_irrefl _)
  have hrow1 : ∀ r e' k' xs' g, S.has (.row r e' k' xs') → (n.ρ r).ownBlock = some g → v1.ownBlock ≠ some g := fun r e' k' xs' g hr hρ he => by
    rcases hat with hat | ⟨hat, _⟩
    · rw [hat] at he; exact (hlim g he).2.2 r e' k' xs' hr hρ
    · rw [hat] at he
      injection he with he
      subst he
      exact absurd (own_block_lt (h.row r e' k' xs' hr).1 hρ).2 (Nat.lt_irrefl _)
  have hs' : Sim N K0 w0 S K' n a w1 := {
    size := h.size
    defers := h.defers
    below := h.below.trans hbelow
    k0 := Know.le_trans h.k0 hle
    knew := fun b o u hu hlt => by
      simp only [K'] at hu
      split at hu
      · rename_i hb; have := hnew b hb; omega
      · exact h.knew b o u hu hlt
    ok := hok
    tmp := fun t => (h.tmp t).mono hle
    box := fun b cs hb => by
      obtain ⟨b', arr, ty, q1, q2, q3, q4, q5, q6⟩ := h.box b cs hb
      have hne := hbox1 b cs b' hb q1
      refine ⟨b', arr, ty, q1, q2, (hblk b' (Array.getElem?_eq_some_iff.1 q3).1 hne).trans q3, q4, fun i c hi => (q5 i c hi).mono hle, fun o => ?_⟩
      simp only [K', if_neg hne]
      exact q6 o
    boxInj := h.boxInj
    boxOne := h.boxOne
    row := fun r e' k' xs' hr => by
      obtain ⟨q1, q2⟩ := h.row r e' k' xs' hr
      refine ⟨⟨q1.1, ?_⟩, fun g hg' => ⟨fun o u hu => ?_, (q2 g hg').2⟩⟩
      · rcases q1.2 with q | ⟨g, cap, cur, u1, u2, u3, u4⟩
        · exact .inl q
        · have hgo : (n.ρ r).ownBlock = some g := by rw [u1]; rfl
          exact .inr ⟨g, cap, cur, u1, u2, (hblk g (Array.getElem?_eq_some_iff.1 u3).1 (hrow1 r e' k' xs' g hr hgo)).trans u3, u4⟩
      · simp only [K', if_neg (hrow1 r e' k' xs' g hr hg')] at hu
        exact (q2 g hg').1 o u hu
    rowInj := h.rowInj }
  refine ⟨K', _, hs'.putRow hd hf hown1 (fun g hg' => ⟨fun o u hu => ?_, fun b cs hb hβ => hbox1 b cs g hb hβ hg', fun r e' k' xs' hr hρ => hrow1 r e' k' xs' g hr hρ hg'⟩) (own_slice hown1 (fun g hg' o u hu => ?_) hlen hone)⟩
  · simp only [K', if_pos hg'] at hu
    have := (List.getElem?_eq_some_iff.1 hu).1
    rwa [hown1.1] at this
  · simp only [K', if_pos hg']; exact hu
/-- What may be appended. -/
inductive AV.Src : AV → Nat → Cells → Prop
  | s {A k xs} (h : A.Sl k xs) : AV.Src A k xs
  | nil {k} : AV.Src (.val (.slice none 0 0)) k []
theorem AV.Src.slice {K : Know} {n : Nm} {A : AV} {k : Nat} {xs : Cells} {c : Value} (h : A.Src k xs) (hr : Rep K n A c) : Slice K k xs c := by
  cases h with
  | s h => exact h.slice hr
  | nil => exact ⟨none, 0, hr, Nat.le_refl _, fun _ => rfl, Rd.nil_⟩
def growInfo (P : Program) (t e k bytes : Nat) : Bool :=
  match P.underlying t with
  | some (.slice e') => e' == e && (match P.info? e with
    | some i => i.size == k && i.bytes == bytes && decide (0 < k) && decide (0 < bytes) && (match i.zero with | some z => z.cells.size == k | none => false)
    | none => false)
  | _ => false
theorem growInfo_spec {t e k bytes : Nat} (h : growInfo P t e k bytes = true) : ∃ i z, P.underlying t = some (.slice e) ∧ P.info? e = some i ∧ i.zero = some z ∧ i.size = k ∧ i.bytes = bytes ∧ z.cells.size = k ∧ 0 < k ∧ 0 < bytes := by
  unfold growInfo at h
  split at h
  · rename_i e' hu
    simp only [Bool.and_eq_true, beq_iff_eq] at h
    obtain ⟨rfl, h⟩ := h
    split at h
    · rename_i i hi
      simp only [Bool.and_eq_true, beq_iff_eq, decide_eq_true_eq] at h
      obtain ⟨⟨⟨⟨h1, h2⟩, h3⟩, h4⟩, h5⟩ := h
      split at h5
      · rename_i z hz
        exact ⟨i, z, hu, hi, hz, h1, h2, by simpa using h5, h3, h4⟩
      · cases h5
    · cases h
  · cases h
theorem app_core {K : Know} {n : Nm} {a : Act} {w : World} (hs : Sim N K0 w0 S K n a w) {t e k bytes d : Nat} {s x : Operand} {v : Value} {xs zs : Cells} {B : AV} (hi : growInfo P t e k bytes = true) (hsv : a.eval s = v) (hown : w.ownsRow w0.heap.size e k v xs.length xs.flatten)
    (hlim : ∀ g, v.ownBlock = some g → (∀ o u, K g o = some u → o < xs.length * k) ∧ (∀ b cs, (b, cs) ∈ S.boxes → n.β b ≠ some g) ∧ ∀ r e' k' xs', S.has (.row r e' k' xs') → (n.ρ r).ownBlock ≠ some g) (hsl : Slice K k xs v)
    (hx : Slice K k zs (a.eval x)) (hsmall : (xs.length + zs.length) * bytes ≤ 140737488355328) (hd : d < N) (hf : S.free d = true) (hq : Q (S.put d (.row d e k (xs ++ zs)))) :
    (⟨some d, .call { callee := .builtin .append, args := #[s, x], argTypes := #[t, t] }, ty, pos, aft, g⟩ : Oper).wp P a w (fun a' w' => ∃ K' n' S', Q S' ∧ Sim N K0 w0 S' K' n' a' w') (fun _ _ _ => False) := by
  obtain ⟨i, z, hu, hie, hz, hk, hb, hzs, hk0, hb0⟩ := growInfo_spec hi
  subst hk hb
  obtain ⟨A, cap, e3, h3, h4, hr⟩ := hx
  have hlen : ∀ y ∈ xs ++ zs, y.length = i.size := fun y hy => by
    obtain ⟨_, _, _, _, _, hrx⟩ := hsl
    rcases List.mem_append.1 hy with hy | hy
    · exact hrx.lens y hy
    · exact hr.lens y hy
  have hone : oneCells (xs ++ zs) = true := by
    obtain ⟨_, _, _, _, _, hrx⟩ := hsl
    exact oneCells_append hrx.ones hr.ones
  have hn : xs.length + zs.length ≤ 140737488355328 := Nat.le_trans (Nat.le_mul_of_pos_right _ hb0) hsmall
  cases A with
  | none =>
    have hz0 : zs = [] := hr.none_nil
    subst hz0
    rw [h4 rfl] at e3
    have hrun := run_append_owned_none (P := P) w w0.heap.size t ty e i i.size hu hie v xs.length xs.flatten hown
    unfold Oper.wp
    simp only [List.length_nil] at e3
    have hr2 : (execOp a.eval ⟨some d, .call { callee := .builtin .append, args := #[s, x], argTypes := #[t, t] }, ty, pos, aft, g⟩).run P w = .ok (.value v) w := by
      simp [execOp, resolve, invoke, builtin, hsv, e3, hrun, Result.andThen]
    rw [hr2]
    obtain ⟨K', n', hs'⟩ := hs.app (v1 := v) (w1 := w) (zs := []) hown hlim (by simpa using hown) ⟨rfl, rfl, rfl, Nat.le_refl _, fun _ _ _ => rfl⟩ (.inl rfl) hlen hone hd hf
    exact ⟨K', n', _, hq, hs'⟩
  | some ad =>
    have hfl : zs.flatten.length = zs.length * i.size := flatten_len hr.lens
    obtain ⟨v1, w1, hrun, h5, h6, h7⟩ := run_app (P := P) w w0.heap.size t ty e i z hu hie hz hzs hk0 v xs.length xs.flatten hown ad zs.length cap zs.flatten hfl
      (fun j u hj => by obtain ⟨b, off, e9, h9⟩ := hr.flat j u hj; rw [e9, Addr.add_mid]; exact hs.ok _ _ _ h9)
      (fun u hu => by obtain ⟨y, hy, hu⟩ := List.mem_flatten.1 hu; exact List.all_eq_true.1 (List.all_eq_true.1 hr.ones y hy) u hu)
      (by unfold maxLen; omega) hsmall hs.base
    unfold Oper.wp
    have hr2 : (execOp a.eval ⟨some d, .call { callee := .builtin .append, args := #[s, x], argTypes := #[t, t] }, ty, pos, aft, g⟩).run P w = .ok (.value v1) w1 := by
      simp [execOp, resolve, invoke, builtin, hsv, e3, hrun, Result.andThen]
    rw [hr2]
    obtain ⟨K', n', hs'⟩ := hs.app (zs := zs) hown hlim (by rw [List.length_append, List.flatten_append]; exact h5) h6 h7 hlen hone hd hf
    exact ⟨K', n', _, hq, hs'⟩
theorem OpT.appNil {t e k bytes d : Nat} {s x : Operand} {zs : Cells} {B : AV} (h1 : S.opv s = .val (.slice none 0 0)) (h2 : S.opv x = B) (hB : B.Src k zs) (hi : growInfo P t e k bytes = true) (hsmall : zs.length * bytes ≤ 140737488355328) (hd : d < N) (hf : S.free d = true)
    (hq : Q (S.put d (.row d e k zs))) : OpT P N K0 w0 ⟨some d, .call { callee := .builtin .append, args := #[s, x], argTypes := #[t, t] }, ty, pos, aft, g⟩ S Q := by
  intro K n a w hs
  have e1 := hs.opv s
  have e2 := hs.opv x
  rw [h1] at e1
  rw [h2] at e2
  exact app_core hs (xs := []) (zs := zs) (B := B) hi e1 (World.ownsRow_nil w w0.heap.size e k) (fun g hg => by cases hg) ⟨none, 0, rfl, Nat.le_refl _, fun _ => rfl, Rd.nil_⟩ (hB.slice e2) (by simpa using hsmall) hd hf (by simpa using hq)
theorem OpT.app {t e k bytes d r : Nat} {s x : Operand} {xs zs : Cells} {B : AV} (h1 : S.opv s = .row r e k xs) (h2 : S.opv x = B) (hB : B.Src k zs) (hi : growInfo P t e k bytes = true) (hsmall : (xs.length + zs.length) * bytes ≤ 140737488355328) (hd : d < N) (hf : S.free d = true)
    {T : St} (hT : S.unrow r = T) (hfT : T.free d = true) (hq : Q (T.put d (.row d e k (xs ++ zs)))) : OpT P N K0 w0 ⟨some d, .call { callee := .builtin .append, args := #[s, x], argTypes := #[t, t] }, ty, pos, aft, g⟩ S Q := by
  subst hT
  intro K n a w hs
  have e1 := hs.opv s
  have e2 := hs.opv x
  rw [h1] at e1
  rw [h2] at e2
  obtain ⟨e1, hsl⟩ := e1
  have hhas : S.has (.row r e k xs) := St.opv_has (x := s) (by rw [h1]; exact .inl rfl)
  obtain ⟨q1, q2⟩ := hs.row r e k xs hhas
  have hs2 : Sim N K0 w0 (S.unrow r) K n a w := hs.weak (St.unrow_wk S r) (fun b c1 c2 p1 p2 => by
    obtain ⟨⟨d1, cs1⟩, m1, f1⟩ := List.mem_map.1 p1
    obtain ⟨⟨d2, cs2⟩, m2, f2⟩ := List.mem_map.1 p2
    injection f1 with f1 f1'
    injection f2 with f2 f2'
    subst f1 f1' f2'
    simp only at f2
    subst f2
    rw [hs.boxOne _ _ _ m1 m2])
  refine app_core hs2 (xs := xs) (zs := zs) (B := B) hi rfl (by rw [show a.eval s = n.ρ r from e1]; exact q1) (fun g hg => ?_) (by rw [show a.eval s = n.ρ r from e1] at *; exact hsl) (hB.slice e2) hsmall hd hfT hq
  rw [show a.eval s = n.ρ r from e1] at hg
  refine ⟨(q2 g hg).1, fun b cs hb => ?_, fun r' e' k' xs' hr' hρ => ?_⟩
  · obtain ⟨⟨d1, cs1⟩, m1, f1⟩ := List.mem_map.1 hb
    injection f1 with f1 _
    subst f1
    exact (q2 g hg).2 d1 cs1 m1
  · have hne := St.unrow_has hr'
    exact hne (hs.rowInj r' e' k' xs' r e k xs g ((St.unrow_wk S r).has hr') hhas hρ hg)
end
end Go.Proofs.Ytjgjohonbjmakaa
