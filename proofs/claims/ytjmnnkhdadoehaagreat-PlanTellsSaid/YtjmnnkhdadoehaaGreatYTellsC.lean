/- A table's entries, of any mode, may be, and go into slots of an order; in plain Lean. -/
import Derived.Test.YtjmnnkhdadoehaaGreatYDiffL
import Derived.Test.YtjmnnkhdadoehaaGreatYLaidW
import Derived.Test.YtjmnnkhdadoehaaGreatYBuildX
namespace Go.Proofs.YtjmnnkhdadoehaaGreat
set_option linter.unusedSimpArgs false
set_option linter.unusedVariables false
open Go
theorem entR_right {r : Rte} (hc : Canon r.p) (ha : 1 ≤ r.act ∧ r.act ≤ 255) : eRight (entR r) = true ∧ IsPfx (entR r) := by
  refine ⟨?_, r.p, hc, rfl, rfl⟩
  have h0 := hc.lo
  have h1 := hc.hi
  unfold eRight
  have hw : wRight (entR r).w = true := by
    have hcut := cut_canon hc
    unfold pMake at hcut
    rw [clamp_id h0 h1] at hcut
    have hcut2 : aCut r.p.a r.p.len = r.p.a := congrArg Pfx.a hcut
    unfold wRight same wClean
    rw [decide_eq_true_eq]
    show (⟨r.p.a, aMask r.p.len⟩ : W2) = ⟨aAnd r.p.a (aMask r.p.len), aMask r.p.len⟩
    have : aAnd r.p.a (aMask r.p.len) = r.p.a := hcut2
    rw [this]
  rw [hw]
  have e1 : (entR r).len = r.p.len := rfl
  have e2 : (entR r).act = r.act := rfl
  rw [e1, e2, decide_eq_true h0, decide_eq_true h1, decide_eq_true ha.1, decide_eq_true ha.2]
  rfl
theorem clean_clean {z : W2} (h1 : z.v.ok) (h2 : z.m.ok) : wClean (wClean z) = wClean z := by
  have : aAnd (aAnd z.v z.m) z.m = aAnd z.v z.m := by
    refine ok_ext (ok_and (ok_and h1 h2) h2) (ok_and h1 h2) fun i _ => ?_
    rw [abit_and (ok_and h1 h2) h2, abit_and h1 h2, Bool.and_assoc, Bool.and_self]
  unfold wClean
  rw [this]
theorem merge_right {x y : W2} (hx : x.ok) (hy : y.ok) (hm : wMergeIs x y = true) : wRight (wMergeW x y) = true := by
  unfold wMergeW
  rw [if_pos hm]
  unfold wRight same
  rw [decide_eq_true_eq]
  exact (clean_clean (z := ⟨x.v, aXor x.m (aDiffer x.v y.v x.m)⟩) hx.1 (ok_xor hx.2 (ok_and (ok_xor hx.1 hy.1) hx.2))).symm
theorem step_right {l l' : List Ent} (h : stepM l = some l') (hok : ∀ x ∈ l, x.w.ok) (hr : ∀ x ∈ l, eRight x = true) : ∀ x ∈ l', eRight x = true := fun e he => by
  obtain ⟨x, y, m, r, p1, p2, hx, hy, _, _, hm, rfl⟩ := step_is h hok
  rcases List.mem_cons.1 (p2.mem_iff.1 he) with rfl | he
  · have h1 := hr x (p1.mem_iff.2 List.mem_cons_self)
    have h2 := merge_right hx hy hm
    unfold eRight at h1 ⊢
    dsimp only
    rw [h2]
    revert h1
    cases wRight x.w
    · intro h1; cases h1
    · exact id
  · exact hr e (p1.mem_iff.2 (List.mem_cons_of_mem _ (List.mem_cons_of_mem _ he)))
theorem mergeN_right : ∀ (n : Nat) (l : List Ent), (∀ x ∈ l, x.w.ok) → (∀ x ∈ l, eRight x = true) → ∀ x ∈ mergeN n l, eRight x = true
  | 0, l, _, h => h
  | n + 1, l, hok, h => by
    cases hs : stepM l with
    | none => simp only [mergeN, hs]; exact h
    | some l' => simp only [mergeN, hs]; exact mergeN_right n l' (step_ok hs hok) (step_right hs hok h)
theorem mergeE_right {l : List Ent} (hok : ∀ x ∈ l, x.w.ok) (h : ∀ x ∈ l, eRight x = true) : ∀ x ∈ mergeE l, eRight x = true := mergeN_right _ _ (sort_ok hok) fun x hx => h x (sortE_mem.1 hx)
theorem buildX_right {rs : List Rte} (ht : TableR rs) (mode : Int) : ∀ e ∈ buildX rs mode, eRight e = true ∧ (mode ≠ 2 → IsPfx e) := by
  have hk := keepR_spec ht
  have hkc := keepR_canon ht
  have r2 : ∀ e ∈ (keepR rs).map entR, eRight e = true ∧ IsPfx e := fun e he => by
    obtain ⟨r, hr, rfl⟩ := List.mem_map.1 he
    exact entR_right (hkc r hr) (ht.act r (hk.sub r hr))
  intro e he
  unfold buildX at he
  split at he
  · unfold buildE at he
    split at he
    · obtain ⟨r, hr, rfl⟩ := List.mem_map.1 (sortE_mem.1 he)
      have := entR_right (ht.canon r hr) (ht.act r hr)
      exact ⟨this.1, fun _ => this.2⟩
    · split at he
      · have := r2 e (sortE_mem.1 he)
        exact ⟨this.1, fun _ => this.2⟩
      · exact ⟨mergeE_right (ents_ok hkc) (fun x hx => (r2 x hx).1) e he, fun h => absurd (by omega) h⟩
  · cases he
theorem laid_good' {order : Int} (ho : ordPl order = true) : ∀ (es : List Ent) (s : List Slt), keptPl order s = true → (∀ e ∈ entsS s, eRight e = true ∧ (order = 1 → IsPfx e)) → (∀ e ∈ es, eRight e = true ∧ (order = 1 → IsPfx e)) →
    ((entsS s).length + es.length ≤ s.length → ∃ t, laidR order s es = some t ∧ keptPl order t = true ∧ (entsS t).Perm (entsS s ++ es) ∧ t.length = s.length) ∧ (¬ (entsS s).length + es.length ≤ s.length → laidR order s es = none)
  | [], s, hk, hs, he => ⟨fun _ => ⟨s, rfl, hk, by rw [List.append_nil], rfl⟩, fun h => absurd (entsS_length s) (by simpa using h)⟩
  | x :: es, s, hk, hs, he => by
    obtain ⟨h1, h2⟩ := ins_step' ho hk (fun e h => (hs e h).1) (fun e h => (hs e h).2) (he x List.mem_cons_self).2 (he x List.mem_cons_self).1
    have hle := entsS_length s
    have hlc : (x :: es).length = es.length + 1 := rfl
    by_cases hf : (entsS s).length = s.length
    · have e1 := h1 hf
      refine ⟨fun h => by omega, fun _ => ?_⟩
      unfold laidR
      rw [e1, if_neg (by decide)]
    · obtain ⟨W, e1, _, e3⟩ := h2 hf
      have hlen := applyW_len W s
      have hpl := e3.perm.length_eq
      rw [List.length_cons] at hpl
      obtain ⟨i1, i2⟩ := laid_good' ho es (applyW s W) e3.kept (fun e h => by
        rcases List.mem_cons.1 (e3.perm.mem_iff.1 h) with h | h
        · rw [h]; exact he x List.mem_cons_self
        · exact hs e h) (fun e h => he e (List.mem_cons_of_mem _ h))
      have hun : laidR order s (x :: es) = laidR order (applyW s W) es := by
        show (if (insPl order s x).2 = 0 then laidR order (applyW s (insPl order s x).1) es else none) = _
        rw [e1, if_pos rfl]
      rw [hun]
      refine ⟨fun h => ?_, fun h => i2 (by omega)⟩
      obtain ⟨t, t1, t2, t3, t4⟩ := i1 (by omega)
      refine ⟨t, t1, t2, t3.trans ?_, by omega⟩
      refine (e3.perm.append_right es).trans ?_
      exact List.perm_middle.symm
theorem kept_zero {order : Int} (ho : ordPl order = true) (n : Nat) : keptPl order (List.replicate n zeroS) = true := by
  unfold ordPl at ho
  rw [Bool.or_eq_true, decide_eq_true_eq, decide_eq_true_eq] at ho
  unfold keptPl keptP
  rw [entsS_zero]
  by_cases o0 : order = 0
  · rw [if_pos o0]; rfl
  · rw [if_neg o0, if_pos (by omega)]; rfl
theorem laid_zero' {order : Int} (ho : ordPl order = true) {es : List Ent} (hl : es.length ≤ 10) (he : ∀ e ∈ es, eRight e = true ∧ (order = 1 → IsPfx e)) (n : Nat) :
    (es.length ≤ n → ∃ t, laidR order (List.replicate n zeroS) (seqE es) = some t ∧ keptPl order t = true ∧ (entsS t).Perm es ∧ t.length = n) ∧ (¬ es.length ≤ n → laidR order (List.replicate n zeroS) (seqE es) = none) := by
  have hp := seqE_perm hl
  obtain ⟨h1, h2⟩ := laid_good' ho (seqE es) (List.replicate n zeroS) (kept_zero ho n) (by rw [entsS_zero]; intro e h; cases h) (fun e h => he e (hp.mem_iff.1 h))
  rw [entsS_zero, List.length_nil, Nat.zero_add, seqE_length, List.length_replicate] at h1 h2
  refine ⟨fun h => ?_, h2⟩
  obtain ⟨t, t1, t2, t3, t4⟩ := h1 h
  exact ⟨t, t1, t2, t3.trans (by rw [List.nil_append]; exact hp), t4⟩
theorem buildX_tell {rs : List Rte} (ht : TableR rs) {a : A2} (ha : a.ok) (mode : Int) : tell (buildX rs mode) a = if mode < 0 ∨ 2 < mode then 0 else tellR rs a := by
  unfold buildX
  by_cases h : 0 ≤ mode ∧ mode ≤ 2
  · rw [if_pos h, if_neg (by omega)]
    exact (buildE_says ht ha mode).2.2
  · rw [if_neg h, if_pos (by omega)]
    rfl
end Go.Proofs.YtjmnnkhdadoehaaGreat
