/- What a merged word matches; what merged rows tell, in plain Lean. -/
import Derived.Test.YtjmnnkhdadoehaaGreatYMergeA
import Derived.Test.YtjmnnkhdadoehaaGreatYLawTells
import Derived.Test.YtjmnnkhdadoehaaGreatYLen
import Derived.Test.YtjmnnkhdadoehaaGreatYWalkM
import Derived.Test.YtjmnnkhdadoehaaGreatYGoods
import Derived.Test.YtjmnnkhdadoehaaGreatYWalkR5
import Derived.Test.YtjmnnkhdadoehaaGreatYWalkR
import Derived.Test.YtjmnnkhdadoehaaGreatYPlan
import Derived.Test.YtjmnnkhdadoehaaGreatYAbs8
namespace Go.Proofs.YtjmnnkhdadoehaaGreat
set_option linter.unusedSimpArgs false
set_option linter.unusedVariables false
open Go
theorem merge_bits {x y : W2} (hx : x.ok) (hy : y.ok) (h : wMergeIs x y = true) : x.m = y.m ∧ ∃ kk, kk < 128 ∧ abit x.m kk = true ∧ (abit x.v kk != abit y.v kk) = true ∧ (∀ i, i < 128 → i ≠ kk → abit x.m i = true → abit x.v i = abit y.v i) ∧ (∀ i, i < 128 → abit (wMergeW x y).m i = (abit x.m i && !decide (i = kk))) ∧ ∀ i, i < 128 → abit (wMergeW x y).v i = (abit x.v i && (abit x.m i && !decide (i = kk))) := by
  have h0 := h
  rw [← mergeIs_ref hx hy] at h
  unfold rMergeIs at h
  simp only [Bool.and_eq_true, decide_eq_true_eq] at h
  obtain ⟨kk, h1, h2, h3, h4⟩ := lastTo_one 128 h.2
  have hd : (aDiffer x.v y.v x.m).ok := ok_and (ok_xor hx.1 hy.1) hx.2
  have hm : abit x.m kk = true := by unfold mDif at h3; cases hq : abit x.m kk <;> simp_all
  have hb : ∀ i, i < 128 → abit (aXor x.m (aDiffer x.v y.v x.m)) i = (abit x.m i && !decide (i = kk)) := fun i hi => by
    rw [abit_xor hx.2 hd, dif_eq hx hy]
    by_cases e : i = kk
    · subst e; rw [h3, hm]; simp
    · rw [h4 i hi e]; simp [e]
  refine ⟨h.1, kk, h1, hm, ?_, ?_, ?_, ?_⟩
  · unfold mDif at h3; rw [hm, Bool.true_and] at h3; exact h3
  · intro i hi e hmi
    have := h4 i hi e
    unfold mDif at this; rw [hmi] at this; simpa using this
  · intro i hi
    unfold wMergeW
    rw [if_pos h0]
    exact hb i hi
  · intro i hi
    unfold wMergeW
    rw [if_pos h0]
    show abit (aAnd x.v (aXor x.m (aDiffer x.v y.v x.m))) i = _
    rw [abit_and hx.1 (ok_xor hx.2 hd), hb i hi]
theorem rMatch_iff {x : W2} {a : A2} : rMatch x a = true ↔ ∀ i, i < 128 → abit x.m i = true → abit x.v i = abit a i := by
  unfold rMatch
  rw [allTo_iff]
  refine forall_congr' fun i => forall_congr' fun _ => ?_
  unfold rMatchP
  cases abit x.m i <;> cases abit x.v i <;> cases abit a i <;> simp
theorem rMeet_iff {x y : W2} : rMeet x y = true ↔ ∀ i, i < 128 → abit x.m i = true → abit y.m i = true → abit x.v i = abit y.v i := by
  unfold rMeet
  rw [allTo_iff]
  refine forall_congr' fun i => forall_congr' fun _ => ?_
  unfold rMeetP
  cases abit x.m i <;> cases abit y.m i <;> cases abit x.v i <;> cases abit y.v i <;> simp
theorem merge_match {x y : W2} {a : A2} (hx : x.ok) (hy : y.ok) (h : wMergeIs x y = true) : rMatch (wMergeW x y) a = true ↔ rMatch x a = true ∨ rMatch y a = true := by
  obtain ⟨hmm, kk, h1, h2, h3, h4, h5, h6⟩ := merge_bits hx hy h
  rw [rMatch_iff, rMatch_iff, rMatch_iff]
  constructor
  · intro hW
    have hx' : ∀ i, i < 128 → i ≠ kk → abit x.m i = true → abit x.v i = abit a i := fun i hi e hm => by
      have := hW i hi (by rw [h5 i hi, hm]; simp [e])
      rw [h6 i hi, hm] at this
      simpa [e] using this
    by_cases e : abit x.v kk = abit a kk
    · refine .inl fun i hi hm => ?_
      by_cases ei : i = kk
      · subst ei; exact e
      · exact hx' i hi ei hm
    · refine .inr fun i hi hm => ?_
      by_cases ei : i = kk
      · subst ei
        cases e1 : abit x.v i <;> cases e2 : abit y.v i <;> cases e3 : abit a i <;> simp_all
      · rw [← hmm] at hm
        rw [← h4 i hi ei hm]
        exact hx' i hi ei hm
  · intro hor i hi hm
    rw [h5 i hi] at hm
    simp only [Bool.and_eq_true, Bool.not_eq_true', decide_eq_false_iff_not] at hm
    rw [h6 i hi, hm.1, decide_eq_false hm.2]
    simp only [Bool.not_false, Bool.and_self, Bool.and_true]
    rcases hor with hx' | hy'
    · exact hx' i hi hm.1
    · rw [h4 i hi hm.2 hm.1]
      exact hy' i hi (by rw [← hmm]; exact hm.1)
theorem meet_some {x y : W2} (h : rMeet x y = true) : ∃ a : A2, rMatch x a = true ∧ rMatch y a = true := by
  rw [rMeet_iff] at h
  refine ⟨words fun i => if abit x.m i = true then abit x.v i else abit y.v i, ?_, ?_⟩
  · rw [rMatch_iff]
    intro i hi hm
    rw [words_bit _ hi, if_pos hm]
  · rw [rMatch_iff]
    intro i hi hm
    rw [words_bit _ hi]
    by_cases e : abit x.m i = true
    · rw [if_pos e]; exact (h i hi e hm).symm
    · rw [if_neg e]
def Cov (x y : W2) : Prop := ∀ i, i < 128 → abit x.m i = true → abit y.m i = true ∧ abit x.v i = abit y.v i
theorem Cov.refl (x : W2) : Cov x x := fun _ _ h => ⟨h, rfl⟩
theorem Cov.trans {x y z : W2} (h1 : Cov x y) (h2 : Cov y z) : Cov x z := fun i hi hm => by
  obtain ⟨a, b⟩ := h1 i hi hm
  obtain ⟨c, d⟩ := h2 i hi a
  exact ⟨c, b.trans d⟩
/-! ### Rows -/
theorem keepTo_perm (l : List Ent) {i k : Nat} (hik : i < k) : ∀ n, ((List.range n).map (nth l)).Perm (keepTo l i k n ++ ((if i < n then [nth l i] else []) ++ (if k < n then [nth l k] else [])))
  | 0 => by simp [keepTo]
  | n + 1 => by
    have ih := keepTo_perm l hik n
    rw [List.range_succ, List.map_append, List.map_cons, List.map_nil]
    by_cases h1 : n = i
    · subst h1
      rw [keepTo_skip (.inl rfl)]
      rw [if_neg (by omega), if_neg (by omega), List.append_nil, List.append_nil] at ih
      rw [if_pos (by omega), if_neg (by omega), List.append_nil]
      exact ih.append_right _
    · by_cases h2 : n = k
      · subst h2
        rw [keepTo_skip (.inr rfl)]
        rw [if_pos hik, if_neg (by omega), List.append_nil] at ih
        rw [if_pos (by omega), if_pos (by omega), ← List.append_assoc]
        exact ih.append_right _
      · have e : keepTo l i k (n + 1) = keepTo l i k n ++ [nth l n] := by
          unfold keepTo
          rw [List.range_succ, List.filter_append, List.filter_cons_of_pos (by simp [h1, h2]), List.filter_nil, List.map_append, List.map_cons, List.map_nil]
        have a1 : (if i < n + 1 then [nth l i] else []) = (if i < n then [nth l i] else []) := by
          by_cases h : i < n
          · rw [if_pos h, if_pos (by omega)]
          · rw [if_neg h, if_neg (by omega)]
        have a2 : (if k < n + 1 then [nth l k] else []) = (if k < n then [nth l k] else []) := by
          by_cases h : k < n
          · rw [if_pos h, if_pos (by omega)]
          · rw [if_neg h, if_neg (by omega)]
        rw [e, a1, a2, List.append_assoc]
        refine (ih.append_right _).trans ?_
        rw [List.append_assoc]
        exact List.Perm.append_left _ List.perm_append_comm
theorem map_nth (l : List Ent) : (List.range l.length).map (nth l) = l := by
  apply List.ext_getElem
  · simp
  · intro i h1 h2
    rw [List.getElem_map, List.getElem_range, nth_at l h2]
theorem keepTo_all {l : List Ent} {i k : Nat} (hik : i < k) (hk : k < l.length) : l.Perm (nth l i :: nth l k :: keepTo l i k l.length) := by
  have h := keepTo_perm l hik l.length
  rw [map_nth, if_pos (by omega), if_pos hk] at h
  exact h.trans List.perm_append_comm
theorem step_is {l l' : List Ent} (h : stepM l = some l') (hok : ∀ x ∈ l, x.w.ok) : ∃ (x y m : Ent) (r : List Ent), l.Perm (x :: y :: r) ∧ l'.Perm (m :: r) ∧ x.w.ok ∧ y.w.ok ∧ y.len = x.len ∧ y.act = x.act ∧ wMergeIs x.w y.w = true ∧ m = ⟨wMergeW x.w y.w, x.len, x.act⟩ := by
  unfold stepM at h
  rw [Option.map_eq_some_iff] at h
  obtain ⟨⟨i, k⟩, h1, rfl⟩ := h
  obtain ⟨h2, h3, h4⟩ := fst2_spec h1
  unfold goodP at h4
  simp only [Bool.and_eq_true, decide_eq_true_eq] at h4
  refine ⟨nth l i, nth l k, mEnt l i k, keepTo l i k l.length, keepTo_all h2 h3, (sortE_perm _).trans List.perm_append_comm, ?_, ?_, h4.1, h4.2.1, h4.2.2, rfl⟩
  · rw [nth_at l (by omega : i < l.length)]; exact hok _ (List.getElem_mem _)
  · rw [nth_at l h3]; exact hok _ (List.getElem_mem _)
def Hit (l : List Ent) (a : A2) (n c : Int) : Prop := ∃ x ∈ l, x.len = n ∧ x.act = c ∧ rMatch x.w a = true
theorem Hit.perm {l l' : List Ent} (h : l.Perm l') {a : A2} {n c : Int} : Hit l a n c ↔ Hit l' a n c :=
  ⟨fun ⟨x, h1, h2⟩ => ⟨x, h.mem_iff.1 h1, h2⟩, fun ⟨x, h1, h2⟩ => ⟨x, h.mem_iff.2 h1, h2⟩⟩
theorem hit_cons {x : Ent} {l : List Ent} {a : A2} {n c : Int} : Hit (x :: l) a n c ↔ (x.len = n ∧ x.act = c ∧ rMatch x.w a = true) ∨ Hit l a n c := by
  constructor
  · rintro ⟨y, hy, h⟩
    rcases List.mem_cons.1 hy with rfl | hy
    · exact .inl h
    · exact .inr ⟨y, hy, h⟩
  · rintro (h | ⟨y, hy, h⟩)
    · exact ⟨x, List.mem_cons_self, h⟩
    · exact ⟨y, List.mem_cons_of_mem _ hy, h⟩
theorem step_hit {l l' : List Ent} (h : stepM l = some l') (hok : ∀ x ∈ l, x.w.ok) (a : A2) (n c : Int) : Hit l' a n c ↔ Hit l a n c := by
  obtain ⟨x, y, m, r, h1, h2, ox, oy, e1, e2, hI, rfl⟩ := step_is h hok
  rw [Hit.perm h1, Hit.perm h2, hit_cons, hit_cons, hit_cons]
  dsimp only
  rw [merge_match ox oy hI, e1, e2]
  constructor
  · rintro (⟨p, q, s | s⟩ | s)
    · exact .inl ⟨p, q, s⟩
    · exact .inr (.inl ⟨p, q, s⟩)
    · exact .inr (.inr s)
  · rintro (⟨p, q, s⟩ | ⟨p, q, s⟩ | s)
    · exact .inl ⟨p, q, .inl s⟩
    · exact .inl ⟨p, q, .inr s⟩
    · exact .inr s
theorem simple_symm {x y : Ent} (h : ¬ (y.len = x.len ∧ rMeet y.w x.w = true)) : ¬ (x.len = y.len ∧ rMeet x.w y.w = true) := fun hc => h ⟨hc.1.symm, by rw [rMeet_comm]; exact hc.2⟩
theorem SimpleR.perm {l l' : List Ent} (h : l.Perm l') (hs : SimpleR l) : SimpleR l' := by
  unfold SimpleR at *
  exact (h.pairwise_iff (fun {x y} => simple_symm)).1 hs
theorem step_simple {l l' : List Ent} (h : stepM l = some l') (hok : ∀ x ∈ l, x.w.ok) (hs : SimpleR l) : SimpleR l' := by
  obtain ⟨x, y, m, r, h1, h2, ox, oy, e1, e2, hI, rfl⟩ := step_is h hok
  have hs := SimpleR.perm h1 hs
  obtain ⟨k1, hs⟩ := List.pairwise_cons.1 hs
  obtain ⟨k2, hs⟩ := List.pairwise_cons.1 hs
  refine SimpleR.perm h2.symm (List.pairwise_cons.2 ⟨fun z hz hc => ?_, hs⟩)
  dsimp only at hc
  obtain ⟨a, a1, a2⟩ := meet_some hc.2
  rcases (merge_match ox oy hI).1 a2 with a3 | a3
  · exact k1 z (List.mem_cons_of_mem _ hz) ⟨hc.1, both_meet a1 a3⟩
  · exact k2 z hz ⟨by rw [hc.1, e1], both_meet a1 a3⟩
theorem mergeN_hit : ∀ (n : Nat) (l : List Ent), (∀ x ∈ l, x.w.ok) → ∀ (a : A2) (m c : Int), Hit (mergeN n l) a m c ↔ Hit l a m c
  | 0, l, _, a, m, c => Iff.rfl
  | n + 1, l, hok, a, m, c => by
    cases hs : stepM l with
    | none => simp only [mergeN, hs]
    | some l' =>
      simp only [mergeN, hs]
      exact (mergeN_hit n l' (step_ok hs hok) a m c).trans (step_hit hs hok a m c)
theorem mergeN_simple : ∀ (n : Nat) (l : List Ent), (∀ x ∈ l, x.w.ok) → SimpleR l → SimpleR (mergeN n l)
  | 0, l, _, h => h
  | n + 1, l, hok, h => by
    cases hs : stepM l with
    | none => simp only [mergeN, hs]; exact h
    | some l' => simp only [mergeN, hs]; exact mergeN_simple n l' (step_ok hs hok) (step_simple hs hok h)
theorem sort_ok {l : List Ent} (h : ∀ x ∈ l, x.w.ok) : ∀ x ∈ sortE l, x.w.ok := fun x hx => h x (sortE_mem.1 hx)
theorem mergeE_hit {l : List Ent} (hok : ∀ x ∈ l, x.w.ok) (a : A2) (m c : Int) : Hit (mergeE l) a m c ↔ Hit l a m c := (mergeN_hit _ _ (sort_ok hok) a m c).trans (Hit.perm (sortE_perm l))
theorem mergeE_simple {l : List Ent} (hok : ∀ x ∈ l, x.w.ok) (h : SimpleR l) : SimpleR (mergeE l) := mergeN_simple _ _ (sort_ok hok) (SimpleR.perm (sortE_perm l).symm h)
theorem tell_hit {l m : List Ent} {a : A2} (ha : a.ok) (hl : ∀ x ∈ l, x.w.ok) (hm : ∀ x ∈ m, x.w.ok) (hs : SimpleR l) (h : ∀ n c, Hit m a n c ↔ Hit l a n c) : tell m a = tell l a := by
  have ml : ∀ x ∈ l, wMatch x.w a = rMatch x.w a := fun x hx => match_ref (hl x hx) ha
  have mm : ∀ x ∈ m, wMatch x.w a = rMatch x.w a := fun x hx => match_ref (hm x hx) ha
  have hu := hs.uniq ml
  rcases tell_is m a with ⟨h1, h2⟩ | ⟨e, he, h1, h2, h3⟩
  · rcases tell_is l a with ⟨k1, k2⟩ | ⟨f, hf, k1, k2, k3⟩
    · rw [h1, k1]
    · obtain ⟨x, hx, _, _, q⟩ := (h f.len f.act).2 ⟨f, hf, rfl, rfl, by rw [← ml f hf]; exact k1⟩
      have := h2 x hx
      rw [mm x hx, q] at this; cases this
  · obtain ⟨x, hx, q1, q2, q3⟩ := (h e.len e.act).1 ⟨e, he, rfl, rfl, by rw [← mm e he]; exact h1⟩
    rw [h3, ← q2]
    refine (tell_best hu hx (by rw [ml x hx]; exact q3) fun f hf hfm => ?_).symm
    obtain ⟨z, hz, p1, p2, p3⟩ := (h f.len f.act).2 ⟨f, hf, rfl, rfl, by rw [← ml f hf]; exact hfm⟩
    have := h2 z hz (by rw [mm z hz]; exact p3)
    omega
theorem mergeE_tell {l : List Ent} {a : A2} (ha : a.ok) (hok : ∀ x ∈ l, x.w.ok) (h : SimpleR l) : tell (mergeE l) a = tell l a := tell_hit ha hok (mergeE_ok hok) h (mergeE_hit hok a)
def Part (l m : List Ent) : Prop := ∀ x ∈ l, ∃ y ∈ m, y.len = x.len ∧ y.act = x.act ∧ Cov y.w x.w
theorem Part.trans {l m r : List Ent} (h1 : Part l m) (h2 : Part m r) : Part l r := fun x hx => by
  obtain ⟨y, hy, a1, a2, a3⟩ := h1 x hx
  obtain ⟨z, hz, b1, b2, b3⟩ := h2 y hy
  exact ⟨z, hz, b1.trans a1, b2.trans a2, b3.trans a3⟩
theorem Part.perm {l m : List Ent} (h : l.Perm m) : Part l m := fun x hx => ⟨x, h.mem_iff.1 hx, rfl, rfl, Cov.refl _⟩
end Go.Proofs.YtjmnnkhdadoehaaGreat

/- A table's entries: which address they match, and what they tell; in plain Lean. -/
namespace Go.Proofs.YtjmnnkhdadoehaaGreat
set_option linter.unusedSimpArgs false
set_option linter.unusedVariables false
open Go
theorem cut_canon {p : Pfx} (h : Canon p) : pMake p.a p.len = p := by
  unfold pMake
  rw [clamp_id h.lo h.hi]
  have : aCut p.a p.len = p.a := ok_ext (ok_and h.ok (mask_ok _)) h.ok fun i hi => by
    unfold aCut
    rw [abit_and h.ok (mask_ok _), mask_bit _ hi]
    by_cases c : (i : Int) < p.len
    · rw [decide_eq_true c, Bool.and_true]
    · rw [decide_eq_false c, Bool.and_false, h.zero i hi (by omega)]
  rw [this]
def entR (r : Rte) : Ent := ⟨⟨r.p.a, aMask r.p.len⟩, r.p.len, r.act⟩
theorem entR_ok {r : Rte} (h : Canon r.p) : (entR r).w.ok := ⟨h.ok, mask_ok _⟩
theorem entR_match {r : Rte} (h : Canon r.p) {a : A2} : rMatch (entR r).w a = rpMatch r.p a := by
  rw [Bool.eq_iff_iff, rMatch_iff, rpm_iff h]
  have := h.hi
  constructor
  · intro q i hi
    exact q i (by omega) (by show abit (aMask r.p.len) i = true; rw [mask_bit _ (by omega)]; exact decide_eq_true hi)
  · intro q i hi hm
    have hm : abit (aMask r.p.len) i = true := hm
    rw [mask_bit _ hi] at hm
    exact q i (of_decide_eq_true hm)
theorem ents_ok {rs : List Rte} (h : ∀ r ∈ rs, Canon r.p) : ∀ x ∈ rs.map entR, x.w.ok := fun x hx => by
  obtain ⟨r, hr, rfl⟩ := List.mem_map.1 hx
  exact entR_ok (h r hr)
theorem ents_simple {rs : List Rte} (h : ∀ r ∈ rs, Canon r.p) (hs : rs.Pairwise fun x y => pLt x.p y.p) : SimpleR (rs.map entR) := by
  unfold SimpleR
  rw [List.pairwise_map]
  refine hs.imp_of_mem fun {x y} hx hy hlt hc => ?_
  obtain ⟨a, a1, a2⟩ := meet_some hc.2
  rw [entR_match (h y hy)] at a1
  rw [entR_match (h x hx)] at a2
  exact hlt.ne (same_match (h x hx) (h y hy) hc.1.symm a2 a1)
def bestAtO (l : List Rte) (a : A2) (n : Int) : Option Rte := l.find? fun r => decide (r.p.len = n) && rpMatch r.p a
def bestTo' (l : List Rte) (a : A2) : Nat → Option Rte
  | 0 => none
  | k + 1 => (bestAtO l a k).or (bestTo' l a k)
def bestO (l : List Rte) (a : A2) : Option Rte := bestTo' l a 129
theorem bestAt_none {l : List Rte} {a : A2} {n : Int} : bestAtO l a n = none ↔ ∀ r ∈ l, r.p.len = n → rpMatch r.p a = false := by
  unfold bestAtO
  rw [List.find?_eq_none]
  refine forall_congr' fun r => forall_congr' fun _ => ?_
  rw [Bool.and_eq_true, decide_eq_true_eq]
  constructor
  · intro h e
    cases hq : rpMatch r.p a with
    | false => rfl
    | true => exact absurd ⟨e, hq⟩ h
  · rintro h ⟨e, q⟩
    rw [h e] at q; cases q
theorem bestTo_skip {l : List Rte} {a : A2} {n : Nat} : ∀ m, n ≤ m → (∀ k : Nat, n ≤ k → k < m → bestAtO l a k = none) → bestTo' l a m = bestTo' l a n
  | 0, h, _ => by rw [show n = 0 by omega]
  | m + 1, h, hk => by
    by_cases e : n = m + 1
    · rw [e]
    · rw [bestTo', hk m (by omega) (by omega), Option.none_or]
      exact bestTo_skip m (by omega) fun k h1 h2 => hk k h1 (by omega)
theorem best_hit' {l : List Rte} {a : A2} {n : Nat} {r : Rte} (hn : n ≤ 128) (hk : ∀ k : Nat, n < k → k ≤ 128 → bestAtO l a k = none) (h : bestAtO l a n = some r) : bestO l a = some r := by
  unfold bestO
  rw [bestTo_skip (n := n + 1) 129 (by omega) fun k h1 h2 => hk k (by omega) (by omega), bestTo', h]
  rfl
theorem best_none' {l : List Rte} {a : A2} (hk : ∀ k : Nat, k ≤ 128 → bestAtO l a k = none) : bestO l a = none := by
  unfold bestO
  rw [bestTo_skip (n := 0) 129 (by omega) fun k h1 h2 => hk k (by omega)]
  rfl
theorem bestO_spec {l : List Rte} (hc : ∀ r ∈ l, Canon r.p) (a : A2) : (bestO l a = none ∧ ∀ r ∈ l, rpMatch r.p a = false) ∨ ∃ r ∈ l, bestO l a = some r ∧ rpMatch r.p a = true ∧ ∀ s ∈ l, rpMatch s.p a = true → s.p.len ≤ r.p.len := by
  suffices H : ∀ m : Nat, m ≤ 129 → (∀ k : Nat, m ≤ k → k < 129 → bestAtO l a k = none) → ((bestO l a = none ∧ ∀ r ∈ l, rpMatch r.p a = false) ∨ ∃ r ∈ l, bestO l a = some r ∧ rpMatch r.p a = true ∧ ∀ s ∈ l, rpMatch s.p a = true → s.p.len ≤ r.p.len) from
    H 129 (Nat.le_refl _) fun k h1 h2 => by omega
  intro m
  induction m with
  | zero =>
    intro _ hk
    refine .inl ⟨best_none' fun k hk' => hk k (by omega) (by omega), fun r hr => ?_⟩
    have := hc r hr
    exact (bestAt_none.1 (hk r.p.len.toNat (by omega) (by have := this.hi; omega))) r hr (by have := this.lo; omega)
  | succ m ih =>
    intro hm hk
    cases hb : bestAtO l a m with
    | none =>
      refine ih (by omega) fun k h1 h2 => ?_
      by_cases e : k = m
      · subst e; exact hb
      · exact hk k (by omega) h2
    | some r =>
      have h1 := List.mem_of_find?_eq_some hb
      have h2 := List.find?_some hb
      rw [Bool.and_eq_true, decide_eq_true_eq] at h2
      refine .inr ⟨r, h1, best_hit' (by omega) (fun k h3 h4 => hk k (by omega) (by omega)) hb, h2.2, fun s hs hsm => ?_⟩
      refine Classical.byContradiction fun hlt => ?_
      have hcs := hc s hs
      have := bestAt_none.1 (hk s.p.len.toNat (by have := h2.1; omega) (by have := hcs.hi; omega)) s hs (by have := hcs.lo; omega)
      rw [this] at hsm; cases hsm
def tellR (l : List Rte) (a : A2) : Int := match bestO l a with | some r => r.act | none => 0
theorem tell_ents {rs : List Rte} (h : ∀ r ∈ rs, Canon r.p) (hs : rs.Pairwise fun x y => pLt x.p y.p) {a : A2} (ha : a.ok) : tell (rs.map entR) a = tellR rs a := by
  have ml : ∀ x ∈ rs.map entR, wMatch x.w a = rMatch x.w a := fun x hx => match_ref (ents_ok h x hx) ha
  have hm : ∀ r ∈ rs, wMatch (entR r).w a = rpMatch r.p a := fun r hr => by rw [ml _ (List.mem_map_of_mem hr), entR_match (h r hr)]
  unfold tellR
  rcases bestO_spec h a with ⟨h1, h2⟩ | ⟨r, hr, h1, h2, h3⟩
  · rw [h1]
    rcases tell_is (rs.map entR) a with ⟨k1, _⟩ | ⟨e, he, k1, _, _⟩
    · exact k1
    · obtain ⟨r, hr, rfl⟩ := List.mem_map.1 he
      rw [hm r hr, h2 r hr] at k1; cases k1
  · rw [h1]
    refine tell_best ((ents_simple h hs).uniq ml) (List.mem_map_of_mem hr) (by rw [hm r hr]; exact h2) fun f hf hfm => ?_
    obtain ⟨s, hs', rfl⟩ := List.mem_map.1 hf
    rw [hm s hs'] at hfm
    exact h3 s hs' hfm
theorem keepR_canon {rs : List Rte} (ht : TableR rs) : ∀ r ∈ keepR rs, Canon r.p := fun r hr => ht.canon r ((keepR_spec ht).sub r hr)
theorem tell_keep {rs : List Rte} (ht : TableR rs) (a : A2) : tellR (keepR rs) a = tellR rs a := by
  have hk := keepR_spec ht
  have hkc := keepR_canon ht
  unfold tellR
  rcases bestO_spec ht.canon a with ⟨h1, h2⟩ | ⟨r, hr, h1, h2, h3⟩
  · rcases bestO_spec hkc a with ⟨k1, _⟩ | ⟨s, hs, k1, k2, k3⟩
    · rw [h1, k1]
    · rw [h2 s (hk.sub s hs)] at k2; cases k2
  · have hsame : ∀ s ∈ keepR rs, rpMatch s.p a = true → s.p.len = r.p.len → s = r := fun s hs hm hl => sorted_same ht.sorted (hk.sub s hs) hr (same_match (hkc s hs) (ht.canon r hr) hl hm h2)
    by_cases hin : r ∈ keepR rs
    · rcases bestO_spec hkc a with ⟨k1, k2⟩ | ⟨s, hs, k1, k2, k3⟩
      · rw [k2 r hin] at h2; cases h2
      · have e1 := h3 s (hk.sub s hs) k2
        have e2 := k3 r hin h2
        rw [h1, k1, hsame s hs k2 (by omega)]
    · have hex : ∃ c, IsCover (keepR rs) r.p c ∧ c.act = r.act := by
        refine Classical.byContradiction fun hno => hin ((hk.iff r hr).2 fun c hc e => hno ⟨c, hc, e⟩)
      obtain ⟨c, hc, hca⟩ := hex
      have hcc := hkc c hc.mem
      have hrc := ht.canon r hr
      have hcm : rpMatch c.p a = true := PCov.match' hcc hrc ⟨by have := hc.short; omega, hc.hit⟩ h2
      rcases bestO_spec hkc a with ⟨k1, k2⟩ | ⟨s, hs, k1, k2, k3⟩
      · rw [k2 c hc.mem] at hcm; cases hcm
      · have e1 := k3 c hc.mem hcm
        have e2 := h3 s (hk.sub s hs) k2
        have hlt : s.p.len < r.p.len := by
          refine Classical.byContradiction fun hge => hin ?_
          rw [← hsame s hs k2 (by omega)]
          exact hs
        have e3 := hc.near s hs hlt (cov_of_match (hkc s hs) hrc (by omega) k2 h2).2
        have : s = c := sorted_same ht.sorted (hk.sub s hs) (hk.sub c hc.mem) (same_match (hkc s hs) hcc (by omega) k2 hcm)
        rw [h1, k1, this]
        exact hca
noncomputable def buildE (rs : List Rte) (mode : Int) : List Ent :=
  if mode = 0 then sortE (rs.map entR) else if mode = 1 then sortE ((keepR rs).map entR) else mergeE ((keepR rs).map entR)
theorem keepR_length {rs : List Rte} (ht : TableR rs) : (keepR rs).length ≤ rs.length := by
  have hk := keepR_spec ht
  have e : keepR rs = rs.filter fun r => decide (r ∈ keepR rs) := sorted_eq hk.sorted (ht.sorted.sublist List.filter_sublist) fun r => by
    rw [List.mem_filter, decide_eq_true_eq]
    exact ⟨fun h => ⟨hk.sub r h, h⟩, fun h => h.2⟩
  rw [e]
  exact List.length_filter_le _ _
theorem buildE_says {rs : List Rte} (ht : TableR rs) {a : A2} (ha : a.ok) (mode : Int) : (∀ x ∈ buildE rs mode, x.w.ok) ∧ SimpleR (buildE rs mode) ∧ tell (buildE rs mode) a = tellR rs a := by
  have hk := keepR_spec ht
  have hkc := keepR_canon ht
  have o1 := ents_ok ht.canon
  have o2 := ents_ok hkc
  have s1 := ents_simple ht.canon ht.sorted
  have s2 := ents_simple hkc hk.sorted
  have srt : ∀ l : List Ent, (∀ x ∈ l, x.w.ok) → SimpleR l → tell (sortE l) a = tell l a := fun l hl hs => tell_hit ha hl (sort_ok hl) hs fun n c => Hit.perm (sortE_perm l)
  unfold buildE
  split
  · exact ⟨sort_ok o1, SimpleR.perm (sortE_perm _).symm s1, (srt _ o1 s1).trans (tell_ents ht.canon ht.sorted ha)⟩
  · split
    · exact ⟨sort_ok o2, SimpleR.perm (sortE_perm _).symm s2, (srt _ o2 s2).trans ((tell_ents hkc hk.sorted ha).trans (tell_keep ht a))⟩
    · exact ⟨mergeE_ok o2, mergeE_simple o2 s2, (mergeE_tell ha o2 s2).trans ((tell_ents hkc hk.sorted ha).trans (tell_keep ht a))⟩
theorem buildE_len {rs : List Rte} (ht : TableR rs) : (buildE rs 0).length = rs.length ∧ (buildE rs 1).length ≤ (buildE rs 0).length ∧ (buildE rs 2).length ≤ (buildE rs 1).length := by
  have h1 := keepR_length ht
  have h2 := mergeE_length ((keepR rs).map entR)
  rw [List.length_map] at h2
  unfold buildE
  rw [if_pos rfl, if_neg (by decide), if_pos rfl, if_neg (by decide), if_neg (by decide), sortE_length, sortE_length, List.length_map, List.length_map]
  exact ⟨rfl, h1, h2⟩
end Go.Proofs.YtjmnnkhdadoehaaGreat

/- Slots in the order of chains: gaps, and when there is a way; in plain Lean. -/
namespace Go.Proofs.YtjmnnkhdadoehaaGreat
set_option linter.unusedSimpArgs false
set_option linter.unusedVariables false
open Go
def IsPfx (x : Ent) : Prop := ∃ p : Pfx, Canon p ∧ x.w = ⟨p.a, aMask p.len⟩ ∧ x.len = p.len
theorem IsPfx.ok {x : Ent} (h : IsPfx x) : x.w.ok := by
  obtain ⟨p, hp, hw, _⟩ := h
  rw [hw]
  exact ⟨hp.ok, mask_ok _⟩
theorem pfx_match {x : Ent} {p : Pfx} (hp : Canon p) (hw : x.w = ⟨p.a, aMask p.len⟩) {a : A2} : rMatch x.w a = rpMatch p a := by
  have := entR_match (r := ⟨p, 0⟩) hp (a := a)
  rw [hw]
  exact this
theorem above_cov {x y : Ent} {p q : Pfx} (hp : Canon p) (hw : x.w = ⟨p.a, aMask p.len⟩) (hl : x.len = p.len) (hq : Canon q) (hv : y.w = ⟨q.a, aMask q.len⟩) (hm : y.len = q.len) : eAbove x y = true ↔ q.len < p.len ∧ PCov q p := by
  have ox : x.w.ok := IsPfx.ok ⟨p, hp, hw, hl⟩
  have oy : y.w.ok := IsPfx.ok ⟨q, hq, hv, hm⟩
  unfold eAbove
  rw [Bool.and_eq_true, decide_eq_true_eq, meet_ref ox oy, hl, hm]
  constructor
  · rintro ⟨h1, h2⟩
    obtain ⟨a, a1, a2⟩ := meet_some h2
    rw [pfx_match hp hw] at a1
    rw [pfx_match hq hv] at a2
    exact ⟨h1, cov_of_match hq hp (by omega) a2 a1⟩
  · rintro ⟨h1, h2⟩
    exact ⟨h1, both_meet (a := p.a) (by rw [pfx_match hp hw]; exact (PCov.refl hp).2) (by rw [pfx_match hq hv]; exact h2.2)⟩
theorem above_trans {x y z : Ent} (hx : IsPfx x) (hy : IsPfx y) (hz : IsPfx z) (h1 : eAbove x y = true) (h2 : eAbove y z = true) : eAbove x z = true := by
  obtain ⟨p, p1, p2, p3⟩ := hx
  obtain ⟨q, q1, q2, q3⟩ := hy
  obtain ⟨r, r1, r2, r3⟩ := hz
  obtain ⟨a1, a2⟩ := (above_cov p1 p2 p3 q1 q2 q3).1 h1
  obtain ⟨b1, b2⟩ := (above_cov q1 q2 q3 r1 r2 r3).1 h2
  exact (above_cov p1 p2 p3 r1 r2 r3).2 ⟨by omega, b2.trans r1 q1 a2⟩
theorem gap_ok {l : List Slt} {x : Ent} (ho : OrdS l) (hp : ∀ k, k < l.length → (nth l k).valid = true → IsPfx (nth l k).e) (hx : IsPfx x) : gapFrom l x ≤ gapTo l x := by
  refine Classical.byContradiction fun hc => ?_
  have hb := lastTo_bound (hiP l x) l.length
  obtain ⟨_, h2⟩ := lastTo_spec (hiP l x) l.length
  obtain ⟨_, _, _, h4⟩ := loF_spec l x (Nat.zero_le _)
  have hfr : gapFrom l x = lastTo (hiP l x) l.length + 1 := rfl
  have hto : gapTo l x = loF l x 0 := rfl
  obtain ⟨i, hi⟩ : ∃ i : Nat, lastTo (hiP l x) l.length = i := ⟨(lastTo (hiP l x) l.length).toNat, by omega⟩
  have e1 := h2 (by omega)
  rw [hi, Int.toNat_natCast] at e1
  have e2 := h4 (by omega)
  rw [← hto] at e2
  unfold hiP at e1
  unfold loP at e2
  rw [Bool.and_eq_true] at e1 e2
  have hil : i < l.length := by omega
  have hjl : gapTo l x < l.length := by omega
  have e3 := above_trans (hp i hil e1.1) hx (hp _ hjl e2.1) e1.2 e2.2
  by_cases e : gapTo l x = i
  · rw [e, eAbove_irr] at e3; cases e3
  · have := ho.get (show gapTo l x < i by omega) hil e2.1 e1.1
    rw [e3] at this; cases this
/-! ### When there is a way -/
theorem emFirst_spec (l : List Slt) {k m : Nat} (hkm : k ≤ m) : (emFirst l k m = -1 ∧ ∀ j, k ≤ j → j < m → (nth l j).valid = true) ∨ ∃ r : Nat, emFirst l k m = r ∧ k ≤ r ∧ r < m ∧ (nth l r).valid = false ∧ ∀ j, k ≤ j → j < r → (nth l j).valid = true := by
  obtain ⟨h1, h2, h3, h4⟩ := firstF_spec (emP l) (m - k) k
  unfold emFirst
  generalize firstF (emP l) (m - k) k = r at h1 h2 h3 h4 ⊢
  have hv : ∀ j, k ≤ j → j < r → (nth l j).valid = true := fun j a b => by
    have := h3 j a b
    unfold emP at this
    simpa using this
  by_cases h : r < m
  · rw [if_pos h]
    refine .inr ⟨_, rfl, h1, h, ?_, hv⟩
    have := h4 (by omega)
    unfold emP at this
    simpa using this
  · rw [if_neg h]
    exact .inl ⟨rfl, fun j a b => hv j a (by omega)⟩
theorem emLast_spec (l : List Slt) (k m : Nat) : (emLast l k m = -1 ∧ ∀ j, k ≤ j → j < m → (nth l j).valid = true) ∨ ∃ r : Nat, emLast l k m = r ∧ k ≤ r ∧ r < m ∧ (nth l r).valid = false ∧ ∀ j, r < j → j < m → (nth l j).valid = true := by
  have hb := lastTo_bound (emP l) m
  obtain ⟨h1, h2⟩ := lastTo_spec (emP l) m
  unfold emLast
  generalize lastTo (emP l) m = q at hb h1 h2 ⊢
  have hv : ∀ j : Nat, q < j → j < m → (nth l j).valid = true := fun j a b => by
    have := h1 j a b
    unfold emP at this
    simpa using this
  by_cases h : (k : Int) ≤ q
  · rw [if_pos h]
    obtain ⟨r, rfl⟩ : ∃ r : Nat, q = r := ⟨q.toNat, by omega⟩
    refine .inr ⟨r, rfl, by omega, by omega, ?_, fun j a b => hv j (by omega) b⟩
    have := h2 (by omega)
    rw [Int.toNat_natCast] at this
    unfold emP at this
    simpa using this
  · rw [if_neg h]
    exact .inl ⟨rfl, fun j a b => hv j (by omega) b⟩
theorem wayG_out {nx : Int → Int × Int} {n f : Nat} {a : Int} (h : ¬ (0 ≤ a ∧ a < n)) : wayG nx n f a = [] := by
  cases f with
  | zero => rfl
  | succ f => simp only [wayG, if_neg h]
theorem wayG_free {nx : Int → Int × Int} {n f : Nat} {a : Int} (h : 0 ≤ a ∧ a < n) (h2 : 0 ≤ (nx a).2) : wayG nx n (f + 1) a = [a, (nx a).2] := by
  simp only [wayG, if_pos h, if_pos h2]
theorem wayG_far {nx : Int → Int × Int} {n f : Nat} {a : Int} (h : 0 ≤ a ∧ a < n) (h2 : ¬ 0 ≤ (nx a).2) : wayG nx n (f + 1) a = behind [a] (wayG nx n f (nx a).1) := by
  simp only [wayG, if_pos h, if_neg h2]
  cases wayG nx n f (nx a).1 <;> rfl
theorem behind_eq_nil {pre w : List Int} : behind pre w = [] ↔ w = [] := by
  cases w with
  | nil => simp [behind]
  | cons b w => simp [behind]
theorem wayB_some (l : List Slt) : ∀ (f k : Nat), k ≤ l.length → l.length - k < f → (k < l.length → (nth l k).valid = true) → (wayG (nextB l) l.length f k = [] ↔ ∀ j, k ≤ j → j < l.length → (nth l j).valid = true)
  | 0, k, _, hf, _ => by omega
  | f + 1, k, hk, hf, hv => by
    by_cases hlt : k < l.length
    · have hin : (0 : Int) ≤ (k : Int) ∧ (k : Int) < l.length := by omega
      obtain ⟨q1, q2, q3, q4⟩ := loF_spec l (nth l k).e (show k + 1 ≤ l.length by omega)
      have e1 : (nextB l k).1 = (loF l (nth l k).e (k + 1) : Int) := by unfold nextB; simp only [Int.toNat_natCast]
      have e2 : (nextB l k).2 = emFirst l (k + 1) (loF l (nth l k).e (k + 1)) := by unfold nextB; simp only [Int.toNat_natCast]
      rcases emFirst_spec l q1 with ⟨h1, h2⟩ | ⟨r, h1, h2, h3, h4, _⟩
      · rw [wayG_far hin (by rw [e2, h1]; omega), behind_eq_nil, e1]
        have ih := wayB_some l f (loF l (nth l k).e (k + 1)) q2 (by omega) fun hl => by
          have := q4 hl
          unfold loP at this
          rw [Bool.and_eq_true] at this
          exact this.1
        rw [ih]
        constructor
        · intro h j hj hjl
          by_cases c : j = k
          · subst c; exact hv hjl
          · by_cases c2 : j < loF l (nth l k).e (k + 1)
            · exact h2 j (by omega) c2
            · exact h j (by omega) hjl
        · exact fun h j hj hjl => h j (by omega) hjl
      · rw [wayG_free hin (by rw [e2, h1]; omega)]
        refine ⟨fun h => (by cases h), fun h => ?_⟩
        rw [h r (by omega) (by omega)] at h4; cases h4
    · rw [wayG_out (by omega)]
      exact ⟨fun _ j hj hjl => by omega, fun _ => rfl⟩
theorem wayA_some (l : List Slt) : ∀ (f : Nat) (k : Int), -1 ≤ k → k < l.length → (k + 1).toNat < f → (0 ≤ k → (nth l k.toNat).valid = true) → (wayG (nextA l) l.length f k = [] ↔ ∀ j : Nat, (j : Int) ≤ k → (nth l j).valid = true)
  | 0, k, _, _, hf, _ => by omega
  | f + 1, k, hlo, hk, hf, hv => by
    by_cases h0 : 0 ≤ k
    · obtain ⟨m, rfl⟩ : ∃ m : Nat, k = m := ⟨k.toNat, by omega⟩
      rw [Int.toNat_natCast] at hv
      have hv := hv h0
      have hin : (0 : Int) ≤ (m : Int) ∧ (m : Int) < l.length := by omega
      have qb := lastTo_bound (hiP l (nth l m).e) m
      obtain ⟨_, q3⟩ := lastTo_spec (hiP l (nth l m).e) m
      have e1 : (nextA l m).1 = hiF l (nth l m).e m := by unfold nextA; simp only [Int.toNat_natCast]
      have e2 : (nextA l m).2 = emLast l (hiF l (nth l m).e m + 1).toNat m := by unfold nextA; simp only [Int.toNat_natCast]
      have hq : hiF l (nth l m).e m = lastTo (hiP l (nth l m).e) m := rfl
      rcases emLast_spec l (hiF l (nth l m).e m + 1).toNat m with ⟨h1, h2⟩ | ⟨r, h1, h2, h3, h4, _⟩
      · rw [wayG_far hin (by rw [e2, h1]; omega), behind_eq_nil, e1]
        have ih := wayA_some l f (hiF l (nth l m).e m) (by omega) (by omega) (by omega) fun hl => by
          have := q3 (by omega)
          rw [hq]
          unfold hiP at this
          rw [Bool.and_eq_true] at this
          exact this.1
        rw [ih]
        constructor
        · intro h j hj
          by_cases c : j = m
          · subst c; exact hv
          · by_cases c2 : hiF l (nth l m).e m < (j : Int)
            · exact h2 j (by omega) (by omega)
            · exact h j (by omega)
        · exact fun h j hj => h j (by omega)
      · rw [wayG_free hin (by rw [e2, h1]; omega)]
        refine ⟨fun h => (by cases h), fun h => ?_⟩
        rw [h r (by omega)] at h4; cases h4
    · rw [wayG_out (by omega)]
      exact ⟨fun _ j hj => by omega, fun _ => rfl⟩
end Go.Proofs.YtjmnnkhdadoehaaGreat

/- bank.Entries, cao.Kept, lowest, highest, Gap, empty. -/
namespace Go.Proofs.YtjmnnkhdadoehaaGreat
set_option linter.unusedSimpArgs false
set_option linter.unusedVariables false
open Go Go.RowKit Go.Shelf
theorem entsS_step {l : List Slt} {k : Nat} (h : k < l.length) : entsS (l.take (k + 1)) = entsS (l.take k) ++ (if l[k].valid = true then [l[k].e] else []) := by
  unfold entsS
  rw [List.take_succ_eq_append_getElem h, List.filter_append, List.map_append]
  congr 1
  by_cases c : l[k].valid = true
  · rw [if_pos c, List.filter_cons_of_pos c]; rfl
  · rw [if_neg c, List.filter_cons_of_neg c]; rfl
theorem entsS_length (l : List Slt) : (entsS l).length ≤ l.length := by
  unfold entsS
  rw [List.length_map]
  exact List.length_filter_le _ _
theorem slot_at {l : List Slt} {k : Nat} (h : k < l.length) {s : Slt} (e : l[k] = s) : (l.map encS)[k]? = some (encS s) := by
  rw [List.getElem?_map, List.getElem?_eq_getElem h, e]; rfl
theorem nth_is {l : List Slt} {k : Nat} (h : k < l.length) {s : Slt} (e : l[k] = s) : nth l k = s := by rw [nth_at _ h, e]
attribute [local irreducible] OpH OpT LT CT HT Good
theorem arm54_1 {p : Prop} (h : p := by first | exact fm0 | exact fm53 | exact fm45 | exact fm6 | exact fm40 | exact fm65 | exact fm27 | exact fm18 | exact fm52 | exact fm28 | exact fm19 | exact fm63 | exact lit_28_1 rfl | exact fm4 | fail) : p := h
theorem stpCaoW_1 {G G' : Prop} (h' : G') (h : Hidd G' → G := by (first | (intro h; (first | (refine LT.consT ?_; (first | refine T.alloc (e := 48) (z := .agg #[.bool false, .int .u64 0, .int .u64 0, .int .u64 0, .int .u64 0, .int .i64 0, .int .i64 0]) (cs := [.val (.bool false), .val (.int .u64 0), .val (.int .u64 0), .val (.int .u64 0), .val (.int .u64 0), .val (.int .i64 0), .val (.int .i64 0)]) (by kernel_rfl) rfl (by decide) rfl rfl ?_ | refine T.store (t := 48) rfl rfl rfl (by kernel_rfl) (by kernel_rfl) (Nat.le_of_ble_eq_true (by kernel_rfl)) rfl rfl ?_ | refine T.appNil (t := 28) (e := 46) (k := 6) (bytes := 48) rfl rfl srP (by kernel_rfl) szP (by decide) rfl ?_ | refine T.app (t := 28) (e := 46) (k := 6) (bytes := 48) rfl rfl srP (by kernel_rfl) szP (by decide) rfl rfl ?_)) | (apply LT.cons1; exact arm54_1; (try decide))); exact h.1) | fail)) : G := h ⟨h'⟩
set_option maxRecDepth 100000 in
set_option maxHeartbeats 2000000 in
theorem g_Entries (l : List Slt) (hl : l.length ≤ 65536) : Good Tryz.prog 54 [.sl 7 (l.map encS)] (.row 3 46 6 ((entsS l).map encE)) := by
  refine Good.of_body (T := [(0, _)]) Tryz.func54 rfl rfl rfl ?_
  intro K0 w0 hno
  repeat' (first | refine stpCaoW_1 ?_ | refine stp ?_ | (refine stq ?_ ?_ <;> intro _))
  refine CT.loopX (fun k : Nat => (⟨[(3, .row 3 46 6 ((entsS (l.take k)).map encE)), (6, .sl 7 (l.map encS)), (7, .val (.int .i64 l.length)), (8, .val (.int .i64 k))], [], []⟩ : St))
    (fun k => k ≤ l.length) (fun k => l.length - k) 0 ?_ (by omega) ?_
  · rw [show entsS (l.take 0) = [] by rw [List.take_zero]; rfl]
    exact subT
  rintro k hk
  by_cases hlt : k < l.length
  · have hel : (entsS (l.take k)).length ≤ 65536 := by
      have := entsS_length (l.take k)
      rw [List.length_take] at this; omega
    have hst := entsS_step hlt
    cases hs : l[k] with
    | mk v e =>
      have hat := slot_at hlt hs
      rw [hs] at hst
      cases v with
      | true =>
        rw [if_pos rfl] at hst
        repeat' (first | (apply LT.cons1; (first | exact OpH.indexS (t := 30) (k := 7) (j := k) rfl slP rfl rfl (by kernel_rfl) hat rfl); (try decide)) | refine stpCaoW_1 ?_ | refine stp ?_ | (refine stq ?_ ?_ <;> intro _))
        refine ⟨k + 1, by omega, by omega, ?_⟩
        rw [hst]
        exact subT
      | false =>
        rw [if_neg (by simp), List.append_nil] at hst
        repeat' (first | (apply LT.cons1; (first | exact OpH.indexS (t := 30) (k := 7) (j := k) rfl slP rfl rfl (by kernel_rfl) hat rfl); (try decide)) | refine stpCaoW_1 ?_ | refine stp ?_ | (refine stq ?_ ?_ <;> intro _))
        refine ⟨k + 1, by omega, by omega, ?_⟩
        rw [hst]
        exact subT
  · obtain rfl : k = l.length := by omega
    repeat' (first | refine stpCaoW_1 ?_ | refine stp ?_ | (refine stq ?_ ?_ <;> intro _))
    refine ⟨by first | exact .inl rfl | exact .inr rfl, _, (.cons (.tmp 2 (A := .row _ _ _ _) rfl (fun _ h => by cases h)) .nil), ?_, rfl⟩
    rw [List.take_length]
    rfl
theorem g_eOrdered (xs : List Ent) : Good Tryz.prog 111 [.sl 6 (xs.map encE)] (.val (.bool (ordered xs))) :=
  Good.sl1 (args := []) posE rfl fun A c w hcap _ h => c_Ordered A c xs hcap w h
theorem arm82_1 {p : Prop} (h : p := by first | exact fm0 | exact fm53 | fail) : p := h
set_option maxRecDepth 100000 in
set_option maxHeartbeats 2000000 in
theorem g_cKept (l : List Slt) (hl : l.length ≤ 65536) : Good Tryz.prog 82 [.sl 7 (l.map encS)] (.val (.bool (ordered (entsS l)))) := by
  have gE := g_Entries l hl
  have gO := g_eOrdered (entsS l)
  refine Good.of_body (T := [(0, _)]) Tryz.func82 rfl rfl rfl ?_
  intro K0 w0 hno
  repeat' (first | (refine LT.consT ?_; refine T.callRow Tryz.func54 rfl rfl rfl gE (by decide) rfl ?_) | (apply LT.cons1; (first | exact OpH.callF Tryz.func111 rfl rfl rfl gO rfl); (try decide)) | (apply LT.cons1; exact arm82_1; (try decide)) | refine stp ?_ | (refine stq ?_ ?_ <;> intro _))
  refine ⟨by first | exact .inl rfl | exact .inr rfl, _, (.cons (.tmp 2 (A := .val _) rfl (fun _ h => by cases h)) .nil), ?_, rfl⟩
  rfl
theorem g_AboveE (x y : Ent) : Good Tryz.prog 141 [.val (.agg #[.int .u64 x.w.v.x, .int .u64 x.w.v.y, .int .u64 x.w.m.x, .int .u64 x.w.m.y, .int .i64 x.len, .int .i64 x.act]), .val (.agg #[.int .u64 y.w.v.x, .int .u64 y.w.v.y, .int .u64 y.w.m.x, .int .u64 y.w.m.y, .int .i64 y.len, .int .i64 y.act])] (.val (.bool (eAbove x y))) := g_Above _ _ _ _ _ _ _ _ _ _ _ _
theorem arm117_1 {p : Prop} (h : p := by first | exact fm0 | exact fm53 | exact fm45 | exact fm6 | exact fm40 | exact fm27 | exact fm18 | exact fm52 | exact fm63 | exact fm28 | exact fm19 | exact OpH.callF Tryz.func141 rfl rfl rfl (g_Above _ _ _ _ _ _ _ _ _ _ _ _) rfl | exact fm54 | exact fm55 | exact fm4 | fail) : p := h
theorem stpCaoW_2 {G G' : Prop} (h' : G') (h : Hidd G' → G := by (first | (intro h; (first | refine CT.seqD (id := 4) 13 (by kernel_rfl) (by kernel_rfl) ?_ | refine CT.draw (id := 4) 13 (by kernel_rfl) (by kernel_rfl) ?_ | (refine LT.consT ?_; (first | refine T.box (e := 46) (cs := [.val _, .val _, .val _, .val _, .val _, .val _]) rfl rfl (by decide) rfl rfl ?_)) | ((first | apply LT.cons1 | (apply LT.guard1; rfl; rfl; rfl; decide) | apply HT.cons1 | (apply HT.guard1; rfl; rfl; rfl)); exact arm117_1; (try decide))); exact h.1) | fail)) : G := h ⟨h'⟩
set_option maxRecDepth 100000 in
set_option maxHeartbeats 2000000 in
theorem g_lowest (l : List Slt) (x : Ent) (k0 : Nat) (hk0 : k0 ≤ l.length) (hl : l.length ≤ 65536) : Good Tryz.prog 117 [.sl 7 (l.map encS), .val (.int .i64 k0), .val (.agg #[.int .u64 x.w.v.x, .int .u64 x.w.v.y, .int .u64 x.w.m.x, .int .u64 x.w.m.y, .int .i64 x.len, .int .i64 x.act])] (.val (.int .i64 (loF l x k0))) := by
  refine Good.of_body (T := [(0, _), (1, _), (2, _)]) Tryz.func117 rfl rfl rfl ?_
  intro K0 w0 hno
  repeat' (first | refine stpCaoW_2 ?_ | refine stp ?_ | (refine stq ?_ ?_ <;> intro _))
  refine CT.loopX (fun k : Nat => (⟨[(0, .sl 7 (l.map encS)), (5, .ptr 5 0), (7, .val (.int .i64 k))], [(5, (encE x).map AV.val)], []⟩ : St))
    (fun k => k0 ≤ k ∧ k ≤ l.length ∧ ∀ j, k0 ≤ j → j < k → loP l x j = false) (fun k => l.length - k) k0 ?_ ⟨by omega, by omega, fun j h1 h2 => by omega⟩ ?_
  · exact subT
  rintro k ⟨hk1, hk2, hc⟩
  by_cases hlt : k < l.length
  · cases hs : l[k] with
    | mk v e =>
      have hat := slot_at hlt hs
      have hn := nth_is hlt hs
      cases v with
      | true =>
        have gA := g_AboveE x e
        cases hA : eAbove x e with
        | true =>
          rw [hA] at gA
          have hr : loF l x k0 = k := firstF_uniq hk1 (by omega) hc fun _ => by unfold loP; rw [hn, hA]; rfl
          repeat' (first | ((first | apply LT.cons1 | (apply LT.guard1; rfl; rfl; rfl; decide) | apply HT.cons1 | (apply HT.guard1; rfl; rfl; rfl)); (first | exact OpH.indexS (t := 30) (k := 7) (j := k) rfl slP rfl rfl (by kernel_rfl) hat rfl | exact OpH.callF Tryz.func141 rfl rfl rfl gA rfl); (try decide)) | refine stpCaoW_2 ?_ | refine stp ?_ | (refine stq ?_ ?_ <;> intro _))
          refine ⟨by first | exact .inl rfl | exact .inr rfl, _, (.cons (.tmp 6 (A := .val _) rfl (fun _ h => by cases h)) .nil), ?_, rfl⟩
          rw [hr]; rfl
        | false =>
          rw [hA] at gA
          repeat' (first | ((first | apply LT.cons1 | (apply LT.guard1; rfl; rfl; rfl; decide) | apply HT.cons1 | (apply HT.guard1; rfl; rfl; rfl)); (first | exact OpH.indexS (t := 30) (k := 7) (j := k) rfl slP rfl rfl (by kernel_rfl) hat rfl | exact OpH.callF Tryz.func141 rfl rfl rfl gA rfl); (try decide)) | refine stpCaoW_2 ?_ | refine stp ?_ | (refine stq ?_ ?_ <;> intro _))
          refine ⟨k + 1, ⟨by omega, by omega, fun j h1 h2 => ?_⟩, by omega, ?_⟩
          · by_cases ej : j = k
            · subst ej; unfold loP; rw [hn, hA]; rfl
            · exact hc j h1 (by omega)
          · exact subT
      | false =>
        repeat' (first | ((first | apply LT.cons1 | (apply LT.guard1; rfl; rfl; rfl; decide) | apply HT.cons1 | (apply HT.guard1; rfl; rfl; rfl)); (first | exact OpH.indexS (t := 30) (k := 7) (j := k) rfl slP rfl rfl (by kernel_rfl) hat rfl); (try decide)) | refine stpCaoW_2 ?_ | refine stp ?_ | (refine stq ?_ ?_ <;> intro _))
        refine ⟨k + 1, ⟨by omega, by omega, fun j h1 h2 => ?_⟩, by omega, ?_⟩
        · by_cases ej : j = k
          · subst ej; unfold loP; rw [hn]; rfl
          · exact hc j h1 (by omega)
        · exact subT
  · obtain rfl : k = l.length := by omega
    have hr : loF l x k0 = l.length := firstF_uniq hk1 (by omega) hc fun h => by omega
    repeat' (first | refine stpCaoW_2 ?_ | refine stp ?_ | (refine stq ?_ ?_ <;> intro _))
    refine ⟨by first | exact .inl rfl | exact .inr rfl, _, (.cons (.tmp 6 (A := .val _) rfl (fun _ h => by cases h)) .nil), ?_, rfl⟩
    rw [hr]; rfl
theorem arm119_1 {p : Prop} (h : p := by first | exact fm0 | exact fm53 | exact fm8 | exact fm9 | exact fm2 | exact fm40 | exact fm27 | exact fm18 | exact fm52 | exact fm28 | exact fm19 | exact fm63 | exact OpH.callF Tryz.func141 rfl rfl rfl (g_Above _ _ _ _ _ _ _ _ _ _ _ _) rfl | exact fm54 | exact fm55 | fail) : p := h
theorem stpCaoW_3 {G G' : Prop} (h' : G') (h : Hidd G' → G := by (first | (intro h; (first | refine CT.seqD (id := 4) 13 (by kernel_rfl) (by kernel_rfl) ?_ | refine CT.draw (id := 4) 13 (by kernel_rfl) (by kernel_rfl) ?_ | (refine LT.consT ?_; (first | refine T.box (e := 46) (cs := [.val _, .val _, .val _, .val _, .val _, .val _]) rfl rfl (by decide) rfl rfl ?_)) | ((first | apply LT.cons1 | (apply LT.guard1; rfl; rfl; rfl; decide) | apply HT.cons1 | (apply HT.guard1; rfl; rfl; rfl)); exact arm119_1; (try decide))); exact h.1) | fail)) : G := h ⟨h'⟩
set_option maxRecDepth 100000 in
set_option maxHeartbeats 2000000 in
theorem g_highest (l : List Slt) (x : Ent) (n : Nat) (hn0 : n ≤ l.length) (hl : l.length ≤ 65536) : Good Tryz.prog 119 [.sl 7 (l.map encS), .val (.int .i64 n), .val (.agg #[.int .u64 x.w.v.x, .int .u64 x.w.v.y, .int .u64 x.w.m.x, .int .u64 x.w.m.y, .int .i64 x.len, .int .i64 x.act])] (.val (.int .i64 (hiF l x n))) := by
  refine Good.of_body (T := [(0, _), (1, _), (2, _)]) Tryz.func119 rfl rfl rfl ?_
  intro K0 w0 hno
  repeat' (first | refine stpCaoW_3 ?_ | refine stp ?_ | (refine stq ?_ ?_ <;> intro _))
  refine CT.loopX (fun m : Nat => (⟨[(0, .sl 7 (l.map encS)), (5, .ptr 5 0), (7, .val (.int .i64 ((m : Int) - 1)))], [(5, (encE x).map AV.val)], []⟩ : St))
    (fun m => m ≤ n ∧ ∀ j, m ≤ j → j < n → hiP l x j = false) (fun m => m) n ?_ ⟨by omega, fun j h1 h2 => by omega⟩ ?_
  · exact subT
  rintro m ⟨hm, hc⟩
  cases m with
  | zero =>
    have hr : hiF l x n = -1 := lastTo_uniq (by omega) (by omega) (fun j _ h2 => hc j (by omega) h2) fun h => by omega
    repeat' (first | refine stpCaoW_3 ?_ | refine stp ?_ | (refine stq ?_ ?_ <;> intro _))
    refine ⟨by first | exact .inl rfl | exact .inr rfl, _, (.cons (.tmp 6 (A := .val _) rfl (fun _ h => by cases h)) .nil), ?_, rfl⟩
    rw [hr]; rfl
  | succ k =>
    have hlt : k < l.length := by omega
    cases hs : l[k] with
    | mk v e =>
      have hat := slot_at hlt hs
      have hn := nth_is hlt hs
      have hk1 : ((k + 1 : Nat) : Int) - 1 = k := by omega
      rw [hk1]
      cases v with
      | true =>
        have gA := g_AboveE e x
        cases hA : eAbove e x with
        | true =>
          rw [hA] at gA
          have hr : hiF l x n = k := lastTo_uniq (by omega) (by omega) (fun j h1 h2 => hc j (by omega) h2) fun _ => by rw [Int.toNat_natCast]; unfold hiP; rw [hn, hA]; rfl
          repeat' (first | ((first | apply LT.cons1 | (apply LT.guard1; rfl; rfl; rfl; decide) | apply HT.cons1 | (apply HT.guard1; rfl; rfl; rfl)); (first | exact OpH.indexS (t := 30) (k := 7) (j := k) rfl slP rfl rfl (by kernel_rfl) hat rfl | exact OpH.callF Tryz.func141 rfl rfl rfl gA rfl); (try decide)) | refine stpCaoW_3 ?_ | refine stp ?_ | (refine stq ?_ ?_ <;> intro _))
          refine ⟨by first | exact .inl rfl | exact .inr rfl, _, (.cons (.tmp 6 (A := .val _) rfl (fun _ h => by cases h)) .nil), ?_, rfl⟩
          rw [hr]; rfl
        | false =>
          rw [hA] at gA
          repeat' (first | ((first | apply LT.cons1 | (apply LT.guard1; rfl; rfl; rfl; decide) | apply HT.cons1 | (apply HT.guard1; rfl; rfl; rfl)); (first | exact OpH.indexS (t := 30) (k := 7) (j := k) rfl slP rfl rfl (by kernel_rfl) hat rfl | exact OpH.callF Tryz.func141 rfl rfl rfl gA rfl); (try decide)) | refine stpCaoW_3 ?_ | refine stp ?_ | (refine stq ?_ ?_ <;> intro _))
          refine ⟨k, ⟨by omega, fun j h1 h2 => ?_⟩, by omega, ?_⟩
          · by_cases ej : j = k
            · subst ej; unfold hiP; rw [hn, hA]; rfl
            · exact hc j (by omega) h2
          · exact subT
      | false =>
        repeat' (first | ((first | apply LT.cons1 | (apply LT.guard1; rfl; rfl; rfl; decide) | apply HT.cons1 | (apply HT.guard1; rfl; rfl; rfl)); (first | exact OpH.indexS (t := 30) (k := 7) (j := k) rfl slP rfl rfl (by kernel_rfl) hat rfl); (try decide)) | refine stpCaoW_3 ?_ | refine stp ?_ | (refine stq ?_ ?_ <;> intro _))
        refine ⟨k, ⟨by omega, fun j h1 h2 => ?_⟩, by omega, ?_⟩
        · by_cases ej : j = k
          · subst ej; unfold hiP; rw [hn]; rfl
          · exact hc j (by omega) h2
        · exact subT
theorem arm112_1 {p : Prop} (h : p := by first | exact fm0 | exact fm53 | exact fm45 | exact fm63 | exact fm4 | fail) : p := h
set_option maxRecDepth 100000 in
set_option maxHeartbeats 2000000 in
theorem g_Gap (l : List Slt) (x : Ent) (hl : l.length ≤ 65536) : Good Tryz.prog 112 [.sl 7 (l.map encS), .val (.agg #[.int .u64 x.w.v.x, .int .u64 x.w.v.y, .int .u64 x.w.m.x, .int .u64 x.w.m.y, .int .i64 x.len, .int .i64 x.act])] (.tup [.val (.int .i64 (gapFrom l x)), .val (.int .i64 (gapTo l x))]) := by
  have gH := g_highest l x l.length (Nat.le_refl _) hl
  have gL : Good Tryz.prog 117 [.sl 7 (l.map encS), .val (.int .i64 0), .val (.agg #[.int .u64 x.w.v.x, .int .u64 x.w.v.y, .int .u64 x.w.m.x, .int .u64 x.w.m.y, .int .i64 x.len, .int .i64 x.act])] (.val (.int .i64 (gapTo l x))) := g_lowest l x 0 (Nat.zero_le _) hl
  have hb := gapFrom_bound l x
  have hfr : gapFrom l x = hiF l x l.length + 1 := rfl
  generalize hiF l x l.length = h at gH hfr
  refine Good.of_body (T := [(0, _), (1, _)]) Tryz.func112 rfl rfl rfl ?_
  intro K0 w0 hno
  repeat' (first | ((first | apply LT.cons1 | apply HT.cons1); (first | exact OpH.callF Tryz.func119 rfl rfl rfl gH rfl | exact OpH.callF Tryz.func117 rfl rfl rfl gL rfl); (try decide)) | refine CT.seqD (id := 1) 10 (by kernel_rfl) (by kernel_rfl) ?_ | refine CT.draw (id := 1) 10 (by kernel_rfl) (by kernel_rfl) ?_ | (refine LT.consT ?_; (first | refine T.box (e := 46) (cs := [.val _, .val _, .val _, .val _, .val _, .val _]) rfl rfl (by decide) rfl rfl ?_)) | ((first | apply LT.cons1 | apply HT.cons1); exact arm112_1; (try decide)) | refine stp ?_ | (refine stq ?_ ?_ <;> intro _))
  refine ⟨by first | exact .inl rfl | exact .inr rfl, _, (.cons (.tmp 4 (A := .val _) rfl (fun _ h => by cases h)) (.cons (.tmp 5 (A := .val _) rfl (fun _ h => by cases h)) .nil)), ?_, rfl⟩
  rw [hfr]
  rfl
end Go.Proofs.YtjmnnkhdadoehaaGreat

/- cao.empty, writes, walk, Insert. -/
namespace Go.Proofs.YtjmnnkhdadoehaaGreat
set_option linter.unusedSimpArgs false
set_option linter.unusedVariables false
open Go Go.RowKit Go.Shelf
theorem emFirst_start (l : List Slt) (k : Nat) : emFirst l k k = -1 := by
  rcases emFirst_spec l (Nat.le_refl k) with ⟨h, _⟩ | ⟨r, _, h1, h2, _⟩
  · exact h
  · omega
theorem emFirst_step (l : List Slt) {k m : Nat} (h : k ≤ m) : emFirst l k (m + 1) = if (nth l m).valid = true ∨ 0 ≤ emFirst l k m then emFirst l k m else (m : Int) := by
  rcases emFirst_spec l h with ⟨h1, h2⟩ | ⟨r, h1, h2, h3, h4, h5⟩
  · rcases emFirst_spec l (show k ≤ m + 1 by omega) with ⟨g1, g2⟩ | ⟨r, g1, g2, g3, g4, g5⟩
    · rw [g1, h1, if_pos (.inl (g2 m h (by omega)))]
    · have e : r = m := by
        refine Classical.byContradiction fun hne => ?_
        rw [h2 r g2 (by omega)] at g4; cases g4
      subst e
      rw [g1, h1, if_neg (by rw [g4]; rintro (h | h); cases h; omega)]
  · rw [h1, if_pos (.inr (by omega))]
    rcases emFirst_spec l (show k ≤ m + 1 by omega) with ⟨g1, g2⟩ | ⟨r', g1, g2, g3, g4, g5⟩
    · rw [g2 r h2 (by omega)] at h4; cases h4
    · rw [g1]
      congr 1
      rcases Nat.lt_trichotomy r r' with h | h | h
      · rw [g5 r h2 h] at h4; cases h4
      · exact h.symm
      · rw [h5 r' g2 h] at g4; cases g4
theorem emLast_start (l : List Slt) (k : Nat) : emLast l k k = -1 := by
  rcases emLast_spec l k k with ⟨h, _⟩ | ⟨r, _, h1, h2, _⟩
  · exact h
  · omega
theorem emLast_step (l : List Slt) {k m : Nat} (h : k ≤ m) : emLast l k (m + 1) = if (nth l m).valid = true then emLast l k m else (m : Int) := by
  by_cases hv : (nth l m).valid = true
  · rw [if_pos hv]
    rcases emLast_spec l k (m + 1) with ⟨g1, g2⟩ | ⟨r, g1, g2, g3, g4, g5⟩
    · rcases emLast_spec l k m with ⟨h1, _⟩ | ⟨r, h1, h2, h3, h4, h5⟩
      · rw [g1, h1]
      · rw [g2 r h2 (by omega)] at h4; cases h4
    · have hrm : r ≠ m := fun e => by rw [e, hv] at g4; cases g4
      rcases emLast_spec l k m with ⟨h1, h2⟩ | ⟨r', h1, h2, h3, h4, h5⟩
      · rw [h2 r g2 (by omega)] at g4; cases g4
      · rw [g1, h1]
        congr 1
        rcases Nat.lt_trichotomy r r' with h | h | h
        · rw [g5 r' h (by omega)] at h4; cases h4
        · exact h
        · rw [h5 r h (by omega)] at g4; cases g4
  · rw [if_neg hv]
    rcases emLast_spec l k (m + 1) with ⟨g1, g2⟩ | ⟨r, g1, g2, g3, g4, g5⟩
    · exact absurd (g2 m h (by omega)) hv
    · rw [g1]
      congr 1
      refine Classical.byContradiction fun hne => ?_
      exact hv (g5 m (by omega) (by omega))
theorem int_at {w : List Int} {k : Nat} (h : k < w.length) {v : Int} (e : nth w k = v) : (w.map encI)[k]? = some (encI v) := by
  rw [List.getElem?_map, List.getElem?_eq_getElem h, ← nth_at w h, e]; rfl
attribute [local irreducible] OpH OpT LT CT HT Good
theorem arm113_1 {p : Prop} (h : p := by first | exact fm0 | exact fm53 | exact fm6 | exact fm40 | exact fm27 | exact fm18 | exact fm52 | exact fm56 | exact fm54 | exact fm55 | exact fm4 | fail) : p := h
set_option maxRecDepth 100000 in
set_option maxHeartbeats 2000000 in
theorem g_emptyF (l : List Slt) (k0 n : Nat) (h0 : k0 ≤ n) (hn : n ≤ l.length) (hl : l.length ≤ 65536) : Good Tryz.prog 113 [.sl 7 (l.map encS), .val (.int .i64 k0), .val (.int .i64 n), .val (.bool false)] (.val (.int .i64 (emFirst l k0 n))) := by
  refine Good.of_body (T := [(0, _), (1, _), (2, _), (3, _)]) Tryz.func113 rfl rfl rfl ?_
  intro K0 w0 hno
  repeat' (first | ((first | apply LT.cons1 | (apply LT.guard1; rfl; rfl; rfl; decide)); exact arm113_1; (try decide)) | refine stp ?_ | (refine stq ?_ ?_ <;> intro _))
  refine CT.loopX (fun k : Nat => (⟨[(0, .sl 7 (l.map encS)), (2, .val (.int .i64 n)), (3, .val (.bool false)), (9, .val (.int .i64 (emFirst l k0 k))), (10, .val (.int .i64 k))], [], []⟩ : St))
    (fun k => k0 ≤ k ∧ k ≤ n) (fun k => n - k) k0 ?_ ⟨by omega, by omega⟩ ?_
  · rw [emFirst_start]
    exact subT
  rintro k ⟨h1, h2⟩
  by_cases hlt : k < n
  · have hkl : k < l.length := by omega
    have hst := emFirst_step l h1
    cases hs : l[k] with
    | mk v e =>
      have hat := slot_at hkl hs
      rw [nth_is hkl hs] at hst
      generalize emFirst l k0 k = o at hst ⊢
      have hcase : (v = true ∨ 0 ≤ o) ∨ (v = false ∧ o < 0) := by
        cases v
        · by_cases h : 0 ≤ o
          · exact .inl (.inr h)
          · exact .inr ⟨rfl, by omega⟩
        · exact .inl (.inl rfl)
      rcases hcase with hc | ⟨rfl, ho⟩
      · rw [if_pos hc] at hst
        cases v with
        | true =>
          repeat' (first | ((first | apply LT.cons1 | (apply LT.guard1; rfl; rfl; rfl; decide)); (first | exact OpH.indexS (t := 30) (k := 7) (j := k) rfl slP rfl rfl (by kernel_rfl) hat rfl); (try decide)) | ((first | apply LT.cons1 | (apply LT.guard1; rfl; rfl; rfl; decide)); exact arm113_1; (try decide)) | refine stp ?_ | (refine stq ?_ ?_ <;> intro _))
          refine ⟨k + 1, ⟨by omega, by omega⟩, by omega, ?_⟩
          rw [hst]
          exact subT
        | false =>
          have ho : 0 ≤ o := by rcases hc with h | h; cases h; exact h
          repeat' (first | ((first | apply LT.cons1 | (apply LT.guard1; rfl; rfl; rfl; decide)); (first | exact OpH.indexS (t := 30) (k := 7) (j := k) rfl slP rfl rfl (by kernel_rfl) hat rfl); (try decide)) | ((first | apply LT.cons1 | (apply LT.guard1; rfl; rfl; rfl; decide)); exact arm113_1; (try decide)) | refine stp ?_ | (refine stq ?_ ?_ <;> intro _))
          refine ⟨k + 1, ⟨by omega, by omega⟩, by omega, ?_⟩
          rw [hst]
          exact subT
      · rw [if_neg (by rintro (h | h); cases h; omega)] at hst
        repeat' (first | ((first | apply LT.cons1 | (apply LT.guard1; rfl; rfl; rfl; decide)); (first | exact OpH.indexS (t := 30) (k := 7) (j := k) rfl slP rfl rfl (by kernel_rfl) hat rfl); (try decide)) | ((first | apply LT.cons1 | (apply LT.guard1; rfl; rfl; rfl; decide)); exact arm113_1; (try decide)) | refine stp ?_ | (refine stq ?_ ?_ <;> intro _))
        refine ⟨k + 1, ⟨by omega, by omega⟩, by omega, ?_⟩
        rw [hst]
        exact subT
  · obtain rfl : k = n := by omega
    repeat' (first | ((first | apply LT.cons1 | (apply LT.guard1; rfl; rfl; rfl; decide)); exact arm113_1; (try decide)) | refine stp ?_ | (refine stq ?_ ?_ <;> intro _))
    refine ⟨by first | exact .inl rfl | exact .inr rfl, _, (.cons (.tmp 8 (A := .val _) rfl (fun _ h => by cases h)) .nil), ?_, rfl⟩
    rfl
set_option maxRecDepth 100000 in
set_option maxHeartbeats 2000000 in
theorem g_emptyL (l : List Slt) (k0 n : Nat) (h0 : k0 ≤ n) (hn : n ≤ l.length) (hl : l.length ≤ 65536) : Good Tryz.prog 113 [.sl 7 (l.map encS), .val (.int .i64 k0), .val (.int .i64 n), .val (.bool true)] (.val (.int .i64 (emLast l k0 n))) := by
  refine Good.of_body (T := [(0, _), (1, _), (2, _), (3, _)]) Tryz.func113 rfl rfl rfl ?_
  intro K0 w0 hno
  repeat' (first | ((first | apply LT.cons1 | (apply LT.guard1; rfl; rfl; rfl; decide)); exact arm113_1; (try decide)) | refine stp ?_ | (refine stq ?_ ?_ <;> intro _))
  refine CT.loopX (fun k : Nat => (⟨[(0, .sl 7 (l.map encS)), (2, .val (.int .i64 n)), (3, .val (.bool true)), (9, .val (.int .i64 (emLast l k0 k))), (10, .val (.int .i64 k))], [], []⟩ : St))
    (fun k => k0 ≤ k ∧ k ≤ n) (fun k => n - k) k0 ?_ ⟨by omega, by omega⟩ ?_
  · rw [emLast_start]
    exact subT
  rintro k ⟨h1, h2⟩
  by_cases hlt : k < n
  · have hkl : k < l.length := by omega
    have hst := emLast_step l h1
    cases hs : l[k] with
    | mk v e =>
      have hat := slot_at hkl hs
      rw [nth_is hkl hs] at hst
      generalize emLast l k0 k = o at hst ⊢
      cases v with
      | true =>
        rw [if_pos rfl] at hst
        repeat' (first | ((first | apply LT.cons1 | (apply LT.guard1; rfl; rfl; rfl; decide)); (first | exact OpH.indexS (t := 30) (k := 7) (j := k) rfl slP rfl rfl (by kernel_rfl) hat rfl); (try decide)) | ((first | apply LT.cons1 | (apply LT.guard1; rfl; rfl; rfl; decide)); exact arm113_1; (try decide)) | refine stp ?_ | (refine stq ?_ ?_ <;> intro _))
        refine ⟨k + 1, ⟨by omega, by omega⟩, by omega, ?_⟩
        rw [hst]
        exact subT
      | false =>
        rw [if_neg (by simp)] at hst
        by_cases ho : o < 0
        all_goals
          repeat' (first | ((first | apply LT.cons1 | (apply LT.guard1; rfl; rfl; rfl; decide)); (first | exact OpH.indexS (t := 30) (k := 7) (j := k) rfl slP rfl rfl (by kernel_rfl) hat rfl); (try decide)) | ((first | apply LT.cons1 | (apply LT.guard1; rfl; rfl; rfl; decide)); exact arm113_1; (try decide)) | refine stp ?_ | (refine stq ?_ ?_ <;> intro _))
          refine ⟨k + 1, ⟨by omega, by omega⟩, by omega, ?_⟩
          rw [hst]
          exact subT
  · obtain rfl : k = n := by omega
    repeat' (first | ((first | apply LT.cons1 | (apply LT.guard1; rfl; rfl; rfl; decide)); exact arm113_1; (try decide)) | refine stp ?_ | (refine stq ?_ ?_ <;> intro _))
    refine ⟨by first | exact .inl rfl | exact .inr rfl, _, (.cons (.tmp 8 (A := .val _) rfl (fun _ h => by cases h)) .nil), ?_, rfl⟩
    rfl
theorem arm114_1 {p : Prop} (h : p := by first | exact fm0 | exact fm53 | exact fm42 | exact fm8 | exact fm9 | exact fm3 | exact OpH.indexS (t := 168) (k := 1) rfl slP rfl rfl (by kernel_rfl) (map_at bd) rfl | exact fm50 | exact fm40 | exact fm65 | exact build_50_0_1 rfl rfl | exact fm11 | exact lit_37_1 rfl | exact OpH.indexS (t := 168) (k := 1) (j := 0) rfl slP rfl rfl (by kernel_rfl) (map_at bd) rfl | exact fm63 | exact build_48_0_1 rfl rfl | exact fm10 | fail) : p := h
theorem stpCaoX_1 {G G' : Prop} (h' : G') (h : Hidd G' → G := by (first | (intro h; (first | refine CT.seqD (id := 5) 15 (by kernel_rfl) (by kernel_rfl) ?_ | refine CT.seqD (id := 6) 8 (by kernel_rfl) (by kernel_rfl) ?_ | refine CT.draw (id := 5) 15 (by kernel_rfl) (by kernel_rfl) ?_ | refine CT.draw (id := 6) 8 (by kernel_rfl) (by kernel_rfl) ?_ | (refine LT.consT ?_; (first | refine T.box (e := 46) (cs := [.val _, .val _, .val _, .val _, .val _, .val _]) rfl rfl (by decide) rfl rfl ?_ | refine T.appNil (t := 37) (e := 50) (k := 8) (bytes := 64) rfl rfl srP (by kernel_rfl) szP (by decide) rfl ?_ | refine T.app (t := 37) (e := 50) (k := 8) (bytes := 64) rfl rfl srP (by kernel_rfl) szP (by decide) rfl rfl ?_)) | ((first | apply LT.cons1 | apply HT.cons1); exact arm114_1; (try decide))); exact h.1) | fail)) : G := h ⟨h'⟩
set_option maxRecDepth 100000 in
set_option maxHeartbeats 2000000 in
theorem g_writes (l : List Slt) (x : Ent) (w : List Int) (hw : 0 < w.length) (hin : ∀ v ∈ w, 0 ≤ v ∧ v < l.length) (hl : l.length ≤ 65536) (hwl : w.length ≤ 65536) : Good Tryz.prog 114 [.sl 7 (l.map encS), .sl 1 (w.map encI), .val (.agg #[.int .u64 x.w.v.x, .int .u64 x.w.v.y, .int .u64 x.w.m.x, .int .u64 x.w.m.y, .int .i64 x.len, .int .i64 x.act])] (.row 40 50 8 ((writesOf l x w).map encX)) := by
  refine Good.of_body (T := [(0, _), (1, _), (2, _)]) Tryz.func114 rfl rfl rfl ?_
  intro K0 w0 hno
  repeat' (first | refine stpCaoX_1 ?_ | refine stp ?_ | (refine stq ?_ ?_ <;> intro _))
  refine CT.loopX (fun j : Nat => (⟨[(0, .sl 7 (l.map encS)), (1, .sl 1 (w.map encI)), (5, .ptr 5 0), (7, .row 7 50 8 ((writesTo l w j).map encX)), (8, .val (.int .i64 ((w.length : Int) - 1 - j)))], [(5, (encE x).map AV.val)], []⟩ : St))
    (fun j => j ≤ w.length - 1) (fun j => w.length - j) 0 ?_ (by omega) ?_
  · rw [show writesTo l w 0 = [] from rfl]
    exact subT
  rintro j hj
  have hwl2 := writesTo_length l w j
  by_cases hlt : j < w.length - 1
  · have k1 : w.length - 1 - j < w.length := by omega
    have k2 : w.length - 2 - j < w.length := by omega
    obtain ⟨v1, e1⟩ : ∃ v, nth w (w.length - 1 - j) = v := ⟨_, rfl⟩
    obtain ⟨v2, e2⟩ : ∃ v, nth w (w.length - 2 - j) = v := ⟨_, rfl⟩
    have a1 := int_at k1 e1
    have a2 := int_at k2 e2
    have hv2 : 0 ≤ v2 ∧ v2 < l.length := by
      rw [← e2, nth_at _ k2]; exact hin _ (List.getElem_mem _)
    have k3 : v2.toNat < l.length := by omega
    obtain ⟨s, hs⟩ : ∃ s, l[v2.toNat] = s := ⟨_, rfl⟩
    have a3 := slot_at k3 hs
    have hst : writesTo l w (j + 1) = writesTo l w j ++ [⟨v1, s⟩] := by
      rw [writesTo_step]
      unfold wr1
      rw [e1, e2, nth_is k3 hs]
    repeat' (first | ((first | apply LT.cons1 | apply HT.cons1); (first | exact OpH.indexS (t := 168) (k := 1) (j := w.length - 1 - j) rfl slP rfl (by omega) (by kernel_rfl) a1 rfl | exact OpH.indexS (t := 168) (k := 1) (j := w.length - 2 - j) rfl slP rfl (by omega) (by kernel_rfl) a2 rfl | exact OpH.indexS (t := 30) (k := 7) (j := v2.toNat) rfl slP rfl (by omega) (by kernel_rfl) a3 rfl); (try decide)) | refine stpCaoX_1 ?_ | refine stp ?_ | (refine stq ?_ ?_ <;> intro _))
    refine ⟨j + 1, by omega, by omega, ?_⟩
    rw [hst]
    exact subT
  · obtain rfl : j = w.length - 1 := by omega
    obtain ⟨v0, e0⟩ : ∃ v, nth w 0 = v := ⟨_, rfl⟩
    have a0 := int_at hw e0
    have ho : writesOf l x w = writesTo l w (w.length - 1) ++ [⟨v0, ⟨true, x⟩⟩] := by unfold writesOf; rw [e0]
    rw [ho]
    repeat' (first | ((first | apply LT.cons1 | apply HT.cons1); (first | exact OpH.indexS (t := 168) (k := 1) (j := 0) rfl slP rfl rfl (by kernel_rfl) a0 rfl); (try decide)) | refine stpCaoX_1 ?_ | refine stp ?_ | (refine stq ?_ ?_ <;> intro _))
    refine ⟨by first | exact .inl rfl | exact .inr rfl, _, (.cons (.tmp 6 (A := .row _ _ _ _) rfl (fun _ h => by cases h)) .nil), ?_, rfl⟩
    rw [List.map_append]
    rfl
end Go.Proofs.YtjmnnkhdadoehaaGreat

/- cao.walk, Insert. -/
namespace Go.Proofs.YtjmnnkhdadoehaaGreat
set_option linter.unusedSimpArgs false
set_option linter.unusedVariables false
open Go Go.RowKit Go.Shelf
theorem ArgsP.cons {P : Program} {S : St} {x : Operand} {xs : List Operand} {A : AV} {As : List AV} (h : ArgP P S (S.opv x) A) (t : ArgsP P S xs As) : ArgsP P S (x :: xs) (A :: As) := ⟨h, t⟩
theorem ArgsP.nil {P : Program} {S : St} : ArgsP P S [] [] := trivial
def NextIs (nx : Int → Int × Int) (n : Nat) (As : List AV) (res : AV) : Prop := ∃ a : Int, As = [.val (.int .i64 a)] ∧ 0 ≤ a ∧ a < n ∧ res = .tup [.val (.int .i64 (nx a).1), .val (.int .i64 (nx a).2)]
theorem nextB_bound (l : List Slt) {a : Int} (h0 : 0 ≤ a) (h1 : a < l.length) : a < (nextB l a).1 ∧ (nextB l a).1 ≤ l.length ∧ -1 ≤ (nextB l a).2 ∧ (nextB l a).2 < l.length := by
  obtain ⟨q1, q2, _, _⟩ := loF_spec l (nth l a.toNat).e (show a.toNat + 1 ≤ l.length by omega)
  unfold nextB
  dsimp only
  rcases emFirst_spec l q1 with ⟨h, _⟩ | ⟨r, h, h2, h3, _⟩
  · rw [h]; omega
  · rw [h]; omega
theorem nextA_bound (l : List Slt) {a : Int} (h0 : 0 ≤ a) (h1 : a < l.length) : (nextA l a).1 < a ∧ -1 ≤ (nextA l a).1 ∧ -1 ≤ (nextA l a).2 ∧ (nextA l a).2 < l.length := by
  have qb := lastTo_bound (hiP l (nth l a.toNat).e) a.toNat
  have hq : hiF l (nth l a.toNat).e a.toNat = lastTo (hiP l (nth l a.toNat).e) a.toNat := rfl
  unfold nextA
  dsimp only
  rcases emLast_spec l (hiF l (nth l a.toNat).e a.toNat + 1).toNat a.toNat with ⟨h, _⟩ | ⟨r, h, h2, h3, _⟩
  · rw [h]; omega
  · rw [h]; omega
theorem wayG_in {nx : Int → Int × Int} {n : Nat} (hb : ∀ a : Int, 0 ≤ a → a < n → (nx a).2 < n) : ∀ (f : Nat) (a : Int), ∀ v ∈ wayG nx n f a, 0 ≤ v ∧ v < n
  | 0, a, v, h => by cases h
  | f + 1, a, v, h => by
    by_cases hin : 0 ≤ a ∧ a < n
    · by_cases h2 : 0 ≤ (nx a).2
      · rw [wayG_free hin h2] at h
        have := hb a hin.1 hin.2
        rcases List.mem_cons.1 h with rfl | h
        · exact hin
        · rw [List.mem_singleton.1 h]; exact ⟨h2, this⟩
      · rw [wayG_far hin h2] at h
        have ih := wayG_in hb f (nx a).1
        cases hw : wayG nx n f (nx a).1 with
        | nil => rw [hw] at h; cases h
        | cons b w =>
          rw [hw] at h ih
          rcases List.mem_cons.1 h with rfl | h
          · exact hin
          · exact ih v h
    · rw [wayG_out hin] at h; cases h
theorem wayG_length {nx : Int → Int × Int} {n : Nat} : ∀ (f : Nat) (a : Int), (wayG nx n f a).length ≤ f + 1
  | 0, a => by simp [wayG]
  | f + 1, a => by
    by_cases hin : 0 ≤ a ∧ a < n
    · by_cases h2 : 0 ≤ (nx a).2
      · rw [wayG_free hin h2]; simp
      · rw [wayG_far hin h2]
        have ih := wayG_length (nx := nx) (n := n) f (nx a).1
        cases hw : wayG nx n f (nx a).1 with
        | nil => simp [behind]
        | cons b w => rw [hw] at ih; simp only [behind, List.length_append, List.length_cons, List.length_nil] at *; omega
    · rw [wayG_out hin]; simp
attribute [local irreducible] OpH OpT LT CT HT Good
theorem arm115_1 {p : Prop} (h : p := by first | exact fm0 | exact fm53 | exact fm2 | exact fm45 | exact fm6 | exact fm54 | exact fm55 | exact lit_168_1 rfl | exact fm15 | fail) : p := h
theorem stpCaoY_1 {G G' : Prop} (h' : G') (h : Hidd G' → G := by (first | (intro h; (first | (refine LT.consT ?_; (first | refine T.appNil (t := 168) (e := 3) (k := 1) (bytes := 8) rfl rfl srP (by kernel_rfl) szP (by decide) rfl ?_ | refine T.app (t := 168) (e := 3) (k := 1) (bytes := 8) rfl rfl srP (by kernel_rfl) szP (by decide) rfl rfl ?_)) | ((first | apply LT.cons1 | (apply LT.guard1; rfl; rfl; rfl; decide)); exact arm115_1; (try decide))); exact h.1) | fail)) : G := h ⟨h'⟩
set_option maxRecDepth 100000 in
set_option maxHeartbeats 2000000 in
theorem g_walk (l : List Slt) (nx : Int → Int × Int) (μ : Int → Nat) (F : Nat) (a0 : Int) (hF : F ≤ 70000) (h0 : 0 ≤ a0 → a0 < l.length → μ a0 < F) (hμ : ∀ a : Int, 0 ≤ a → a < l.length → ¬ 0 ≤ (nx a).2 → 0 ≤ (nx a).1 → (nx a).1 < l.length → μ (nx a).1 < μ a)
    (hl : l.length ≤ 65536) : Good Tryz.prog 115 [.sl 7 (l.map encS), .val (.int .i64 a0), .pr (FnIs Tryz.prog (NextIs nx l.length))] (.row 6 3 1 ((wayG nx l.length F a0).map encI)) := by
  refine Good.of_body (T := [(0, _), (1, _), (2, _)]) Tryz.func115 rfl rfl rfl ?_
  intro K0 w0 hno
  repeat' (first | refine stpCaoY_1 ?_ | refine stp ?_ | (refine stq ?_ ?_ <;> intro _))
  refine CT.loopX (fun q : List Int × Int × Nat => (⟨[(0, .sl 7 (l.map encS)), (1, .val (.int .i64 q.2.1)), (2, .pr (FnIs Tryz.prog (NextIs nx l.length))), (7, .row 7 3 1 (q.1.map encI))], [], []⟩ : St))
    (fun q => wayG nx l.length F a0 = behind q.1 (wayG nx l.length q.2.2 q.2.1) ∧ (0 ≤ q.2.1 → q.2.1 < l.length → μ q.2.1 < q.2.2) ∧ q.1.length + q.2.2 ≤ 70000) (fun q => q.2.2) ([], a0, F) ?_ ⟨by cases wayG nx l.length F a0 <;> rfl, h0, by simp; omega⟩ ?_
  · exact subT
  rintro ⟨pre, a, f⟩ ⟨hw, hf, hp⟩
  dsimp only at hw hf hp ⊢
  by_cases hin : 0 ≤ a ∧ a < l.length
  · obtain ⟨h1, h2⟩ := hin
    obtain ⟨f, rfl⟩ : ∃ f', f = f' + 1 := ⟨f - 1, by have := hf h1 h2; omega⟩
    by_cases hfree : 0 ≤ (nx a).2
    · rw [wayG_free ⟨h1, h2⟩ hfree] at hw
      have hw' : wayG nx l.length F a0 = pre ++ [a] ++ [(nx a).2] := by rw [hw]; simp [behind]
      rw [hw']
      generalize hn1 : (nx a).1 = n1
      generalize hn2 : (nx a).2 = n2 at hfree ⊢
      repeat' (first | (refine CT.sub (S' := ⟨[(6, .row 6 3 1 ((pre ++ [a] ++ [n2]).map encI))], [], []⟩) ?_ (CT.ret ?_)) | ((first | apply LT.cons1 | (apply LT.guard1; rfl; rfl; rfl; decide)); (first | exact OpH.callP (res := .tup [.val (.int .i64 n1), .val (.int .i64 n2)]) rfl rfl ⟨a, rfl, h1, h2, by rw [hn1, hn2]⟩ rfl); (try decide)) | refine stpCaoY_1 ?_ | refine stp ?_ | (refine stq ?_ ?_ <;> intro _))
      · rw [show List.map encI (pre ++ [a] ++ [n2]) = List.map encI (pre ++ [a]) ++ List.map encI [n2] from List.map_append]
        exact subT
      · refine ⟨by first | exact .inl rfl | exact .inr rfl, _, (.cons (.tmp 6 (A := .row _ _ _ _) rfl (fun _ h => by cases h)) .nil), ?_, rfl⟩
        rfl
    · rw [wayG_far ⟨h1, h2⟩ hfree] at hw
      have hw' : wayG nx l.length F a0 = behind (pre ++ [a]) (wayG nx l.length f (nx a).1) := by
        rw [hw]
        cases wayG nx l.length f (nx a).1 with
        | nil => rfl
        | cons b w => simp [behind]
      have hm := hμ a h1 h2 hfree
      have hfa := hf h1 h2
      generalize hn1 : (nx a).1 = n1 at hw' hm
      generalize hn2 : (nx a).2 = n2 at hfree
      repeat' (first | ((first | apply LT.cons1 | (apply LT.guard1; rfl; rfl; rfl; decide)); (first | exact OpH.callP (res := .tup [.val (.int .i64 n1), .val (.int .i64 n2)]) rfl rfl ⟨a, rfl, h1, h2, by rw [hn1, hn2]⟩ rfl); (try decide)) | refine stpCaoY_1 ?_ | refine stp ?_ | (refine stq ?_ ?_ <;> intro _))
      refine ⟨(pre ++ [a], n1, f), ⟨hw', fun q1 q2 => ?_, ?_⟩, by dsimp only; omega, ?_⟩
      · have := hm q1 q2
        dsimp only at *
        omega
      · simp only [List.length_append, List.length_singleton]; omega
      · dsimp only
        exact subT
  · rw [wayG_out hin] at hw
    have hw' : wayG nx l.length F a0 = [] := hw
    rw [hw']
    have hcase : a < 0 ∨ (0 ≤ a ∧ (l.length : Int) ≤ a) := by omega
    rcases hcase with h | ⟨h, h'⟩
    all_goals
      repeat' (first | (refine CT.sub (S' := ⟨[(6, .row 6 3 1 (([] : List Int).map encI))], [], []⟩) ?_ (CT.ret ?_)) | refine stpCaoY_1 ?_ | refine stp ?_ | (refine stq ?_ ?_ <;> intro _))
      · exact subT
      · refine ⟨by first | exact .inl rfl | exact .inr rfl, _, (.cons (.tmp 6 (A := .row _ _ _ _) rfl (fun _ h => by cases h)) .nil), ?_, rfl⟩
        rfl
theorem arm116_1 {p : Prop} (h : p := by first | exact fm0 | exact fm51 | exact fm53 | exact fm4 | exact fm40 | exact fm28 | exact fm19 | exact fm63 | fail) : p := h
set_option maxRecDepth 100000 in
set_option maxHeartbeats 2000000 in
theorem g_ins1 (l : List Slt) (hl : l.length ≤ 65536) (k : Nat) (hk : k < l.length) : Good Tryz.prog 116 [.val (.int .i64 k), .pr (PSl 7 (l.map encS))] (.tup [.val (.int .i64 (nextB l k).1), .val (.int .i64 (nextB l k).2)]) := by
  have e1 : (nextB l k).1 = (loF l (nth l k).e (k + 1) : Int) := by unfold nextB; simp only [Int.toNat_natCast]
  have e2 : (nextB l k).2 = emFirst l (k + 1) (loF l (nth l k).e (k + 1)) := by unfold nextB; simp only [Int.toNat_natCast]
  rw [e1, e2]
  obtain ⟨s, hs⟩ : ∃ s, l[k] = s := ⟨_, rfl⟩
  have hat := slot_at hk hs
  rw [nth_is hk hs]
  obtain ⟨q1, q2, _, _⟩ := loF_spec l s.e (show k + 1 ≤ l.length by omega)
  have gL := g_lowest l s.e (k + 1) (by omega) hl
  have gE := g_emptyF l (k + 1) (loF l s.e (k + 1)) q1 q2 hl
  generalize loF l s.e (k + 1) = far at q1 q2 gL gE ⊢
  refine Good.of_body (T := [(0, _), (1, _)]) Tryz.func116 rfl rfl rfl ?_
  intro K0 w0 hno
  repeat' (first | ((first | apply LT.cons1 | apply HT.cons1); (first | exact OpH.loadP rfl (by kernel_rfl) | exact OpH.indexS (t := 30) (k := 7) (j := k) rfl slP rfl rfl (by kernel_rfl) hat rfl | exact OpH.callF Tryz.func117 rfl rfl rfl gL rfl | exact OpH.callF Tryz.func113 rfl rfl rfl gE rfl); (try decide)) | refine CT.seqD (id := 1) 9 (by kernel_rfl) (by kernel_rfl) ?_ | refine CT.draw (id := 1) 9 (by kernel_rfl) (by kernel_rfl) ?_ | ((first | apply LT.cons1 | apply HT.cons1); exact arm116_1; (try decide)) | refine stp ?_ | (refine stq ?_ ?_ <;> intro _))
  refine ⟨by first | exact .inl rfl | exact .inr rfl, _, (.cons (.tmp 3 (A := .val _) rfl (fun _ h => by cases h)) (.cons (.tmp 4 (A := .val _) rfl (fun _ h => by cases h)) .nil)), ?_, rfl⟩
  rfl
theorem arm118_1 {p : Prop} (h : p := by first | exact fm0 | exact fm51 | exact fm53 | exact fm40 | exact fm28 | exact fm19 | exact fm63 | exact fm4 | fail) : p := h
set_option maxRecDepth 100000 in
set_option maxHeartbeats 2000000 in
theorem g_ins2 (l : List Slt) (hl : l.length ≤ 65536) (k : Nat) (hk : k < l.length) : Good Tryz.prog 118 [.val (.int .i64 k), .pr (PSl 7 (l.map encS))] (.tup [.val (.int .i64 (nextA l k).1), .val (.int .i64 (nextA l k).2)]) := by
  have e1 : (nextA l k).1 = hiF l (nth l k).e k := by unfold nextA; simp only [Int.toNat_natCast]
  have e2 : (nextA l k).2 = emLast l (hiF l (nth l k).e k + 1).toNat k := by unfold nextA; simp only [Int.toNat_natCast]
  rw [e1, e2]
  obtain ⟨s, hs⟩ : ∃ s, l[k] = s := ⟨_, rfl⟩
  have hat := slot_at hk hs
  rw [nth_is hk hs]
  have qb := lastTo_bound (hiP l s.e) k
  have hq : hiF l s.e k = lastTo (hiP l s.e) k := rfl
  have gL := g_highest l s.e k (by omega) hl
  have gE := g_emptyL l (hiF l s.e k + 1).toNat k (by omega) (by omega) hl
  rw [Int.toNat_of_nonneg (show 0 ≤ hiF l s.e k + 1 by omega)] at gE
  have hb : -1 ≤ hiF l s.e k ∧ hiF l s.e k < k := by omega
  generalize emLast l (hiF l s.e k + 1).toNat k = fr at gE ⊢
  generalize hiF l s.e k = far at gL gE hb ⊢
  refine Good.of_body (T := [(0, _), (1, _)]) Tryz.func118 rfl rfl rfl ?_
  intro K0 w0 hno
  repeat' (first | ((first | apply LT.cons1 | apply HT.cons1); (first | exact OpH.loadP rfl (by kernel_rfl) | exact OpH.indexS (t := 30) (k := 7) (j := k) rfl slP rfl rfl (by kernel_rfl) hat rfl | exact OpH.callF Tryz.func119 rfl rfl rfl gL rfl | exact OpH.callF Tryz.func113 rfl rfl rfl gE rfl); (try decide)) | refine CT.seqD (id := 1) 8 (by kernel_rfl) (by kernel_rfl) ?_ | refine CT.draw (id := 1) 8 (by kernel_rfl) (by kernel_rfl) ?_ | ((first | apply LT.cons1 | apply HT.cons1); exact arm118_1; (try decide)) | refine stp ?_ | (refine stq ?_ ?_ <;> intro _))
  refine ⟨by first | exact .inl rfl | exact .inr rfl, _, (.cons (.tmp 3 (A := .val _) rfl (fun _ h => by cases h)) (.cons (.tmp 4 (A := .val _) rfl (fun _ h => by cases h)) .nil)), ?_, rfl⟩
  rfl
theorem spec1 (l : List Slt) (hl : l.length ≤ 65536) : ∀ As res, NextIs (nextB l) l.length As res → Good Tryz.prog 116 (As ++ [.pr (PSl 7 (l.map encS))]) res := by
  rintro As res ⟨a, rfl, h0, h1, rfl⟩
  obtain ⟨k, rfl⟩ : ∃ k : Nat, a = k := ⟨a.toNat, by omega⟩
  exact g_ins1 l hl k (by omega)
theorem spec2 (l : List Slt) (hl : l.length ≤ 65536) : ∀ As res, NextIs (nextA l) l.length As res → Good Tryz.prog 118 (As ++ [.pr (PSl 7 (l.map encS))]) res := by
  rintro As res ⟨a, rfl, h0, h1, rfl⟩
  obtain ⟨k, rfl⟩ : ∃ k : Nat, a = k := ⟨a.toNat, by omega⟩
  exact g_ins2 l hl k (by omega)
theorem g_walkB (l : List Slt) (a0 : Int) (h0 : 0 ≤ a0) (hl : l.length ≤ 65536) : Good Tryz.prog 115 [.sl 7 (l.map encS), .val (.int .i64 a0), .pr (FnIs Tryz.prog (NextIs (nextB l) l.length))] (.row 6 3 1 ((wayB l a0).map encI)) :=
  g_walk l (nextB l) (fun a => l.length - a.toNat) (l.length + 1) a0 (by omega) (fun _ _ => by omega) (fun a h1 h2 _ h3 h4 => by
    have := nextB_bound l h1 h2
    omega) hl
theorem g_walkA (l : List Slt) (a0 : Int) (hl : l.length ≤ 65536) : Good Tryz.prog 115 [.sl 7 (l.map encS), .val (.int .i64 a0), .pr (FnIs Tryz.prog (NextIs (nextA l) l.length))] (.row 6 3 1 ((wayA l a0).map encI)) :=
  g_walk l (nextA l) (fun a => a.toNat) (l.length + 1) a0 (by omega) (fun _ _ => by omega) (fun a h1 h2 _ h3 h4 => by
    have := nextA_bound l h1 h2
    omega) hl
end Go.Proofs.YtjmnnkhdadoehaaGreat

/- cao.Chain; law13.slot, law13.awake. -/
namespace Go.Proofs.YtjmnnkhdadoehaaGreat
set_option linter.unusedSimpArgs false
set_option linter.unusedVariables false
open Go Go.RowKit Go.Shelf
attribute [local irreducible] OpH OpT LT CT HT Good
end Go.Proofs.YtjmnnkhdadoehaaGreat

/- law08 and law12: slots and writes as the document has them; ref08, ref13: what the document's answer does, first part. -/
namespace Go.Proofs.YtjmnnkhdadoehaaGreat
set_option linter.unusedSimpArgs false
set_option linter.unusedVariables false
open Go Go.RowKit Go.Shelf
attribute [local irreducible] OpH OpT LT CT HT Good
theorem arm47_1 {p : Prop} (h : p := by first | exact fm27 | exact fm18 | exact fm52 | exact fm28 | exact fm19 | exact fm63 | exact OpH.callF Tryz.func48 rfl rfl rfl (g_law5One _ _ _ _ _ _) rfl | exact build_102_0_1 rfl rfl | exact OpH.build (t := 102) (cells := #[_, _, _, _, _, _, _]) (by kernel_rfl) rfl | fail) : p := h
set_option maxRecDepth 100000 in
set_option maxHeartbeats 2000000 in
theorem g_law8One (s : Slt) : Good Tryz.prog 47 [.val (.agg #[.bool s.valid, .int .u64 s.e.w.v.x, .int .u64 s.e.w.v.y, .int .u64 s.e.w.m.x, .int .u64 s.e.w.m.y, .int .i64 s.e.len, .int .i64 s.e.act])] (.val (.agg #[.bool s.valid, .int .u64 s.e.w.v.x, .int .u64 s.e.w.v.y, .int .u64 s.e.w.m.x, .int .u64 s.e.w.m.y, .int .i64 s.e.len, .int .i64 s.e.act])) := by
  have g5 := g_law5One s.e.w.v.x s.e.w.v.y s.e.w.m.x s.e.w.m.y s.e.len s.e.act
  refine Good.of_body (T := [(0, _)]) Tryz.func47 rfl rfl rfl ?_
  intro K0 w0 hno
  repeat' (first | ((first | apply LT.cons1 | apply HT.cons1); (first | exact OpH.callF Tryz.func48 rfl rfl rfl g5 rfl); (try decide)) | refine CT.seqD (id := 1) 6 (by kernel_rfl) (by kernel_rfl) ?_ | refine CT.draw (id := 1) 6 (by kernel_rfl) (by kernel_rfl) ?_ | (refine LT.consT ?_; (first | refine T.box (e := 48) (cs := [.val _, .val _, .val _, .val _, .val _, .val _, .val _]) rfl rfl (by decide) rfl rfl ?_ | refine T.alloc (e := 102) (z := .agg #[.bool false, .int .u64 0, .int .u64 0, .int .u64 0, .int .u64 0, .int .i64 0, .int .i64 0]) (cs := [.val (.bool false), .val (.int .u64 0), .val (.int .u64 0), .val (.int .u64 0), .val (.int .u64 0), .val (.int .i64 0), .val (.int .i64 0)]) (by kernel_rfl) rfl (by decide) rfl rfl ?_ | refine T.store (t := 102) rfl rfl rfl (by kernel_rfl) (by kernel_rfl) (Nat.le_of_ble_eq_true (by kernel_rfl)) rfl rfl ?_)) | ((first | apply LT.cons1 | apply HT.cons1); exact arm47_1; (try decide)) | refine stp ?_ | (refine stq ?_ ?_ <;> intro _))
  refine ⟨by first | exact .inl rfl | exact .inr rfl, _, (.cons (.many 2 (vs := [_, _, _, _, _, _, _]) rfl rfl (by kernel_rfl) rfl rfl) .nil), ?_, rfl⟩
  rfl
theorem arm19_1 {p : Prop} (h : p := by first | exact fm0 | exact fm53 | exact fm45 | exact fm6 | exact fm40 | exact fm65 | exact lit_56_1 rfl | exact fm4 | fail) : p := h
theorem stpCaoS_1 {G G' : Prop} (h' : G') (h : Hidd G' → G := by (first | (intro h; (first | (refine LT.consT ?_; (first | refine T.alloc (e := 48) (z := .agg #[.bool false, .int .u64 0, .int .u64 0, .int .u64 0, .int .u64 0, .int .i64 0, .int .i64 0]) (cs := [.val (.bool false), .val (.int .u64 0), .val (.int .u64 0), .val (.int .u64 0), .val (.int .u64 0), .val (.int .i64 0), .val (.int .i64 0)]) (by kernel_rfl) rfl (by decide) rfl rfl ?_ | refine T.store (t := 48) rfl rfl rfl (by kernel_rfl) (by kernel_rfl) (Nat.le_of_ble_eq_true (by kernel_rfl)) rfl rfl ?_ | refine T.appNil (t := 56) (e := 102) (k := 7) (bytes := 56) rfl rfl srP (by kernel_rfl) szP (by decide) rfl ?_ | refine T.app (t := 56) (e := 102) (k := 7) (bytes := 56) rfl rfl srP (by kernel_rfl) szP (by decide) rfl rfl ?_)) | (apply LT.cons1; exact arm19_1; (try decide))); exact h.1) | fail)) : G := h ⟨h'⟩
set_option maxRecDepth 100000 in
set_option maxHeartbeats 2000000 in
theorem g_law8Of (l : List Slt) (hl : l.length ≤ 4096) : Good Tryz.prog 19 [.sl 7 (l.map encS)] (.row 3 102 7 (l.map encS)) := by
  refine Good.of_body (T := [(0, _)]) Tryz.func19 rfl rfl rfl ?_
  intro K0 w0 hno
  repeat' (first | refine stpCaoS_1 ?_ | refine stp ?_ | (refine stq ?_ ?_ <;> intro _))
  refine CT.loopX (fun k : Nat => (⟨[(3, .row 3 102 7 ((l.take k).map encS)), (6, .sl 7 (l.map encS)), (7, .val (.int .i64 l.length)), (8, .val (.int .i64 k))], [], []⟩ : St))
    (fun k => k ≤ l.length) (fun k => l.length - k) 0 ?_ (by omega) ?_
  · rw [List.take_zero]
    exact subT
  rintro k hk
  by_cases hlt : k < l.length
  · have hkl : (l.take k).length = k := by rw [List.length_take]; omega
    have gO := g_law8One l[k]
    repeat' (first | (apply LT.cons1; (first | exact OpH.callF Tryz.func47 rfl rfl rfl gO rfl); (try decide)) | refine stpCaoS_1 ?_ | refine stp ?_ | (refine stq ?_ ?_ <;> intro _))
    refine ⟨k + 1, by omega, by omega, ?_⟩
    rw [List.take_succ_eq_append_getElem hlt]
    exact subT
  · obtain rfl : k = l.length := by omega
    repeat' (first | refine stpCaoS_1 ?_ | refine stp ?_ | (refine stq ?_ ?_ <;> intro _))
    refine ⟨by first | exact .inl rfl | exact .inr rfl, _, (.cons (.tmp 2 (A := .row _ _ _ _) rfl (fun _ h => by cases h)) .nil), ?_, rfl⟩
    rw [List.take_length]
    rfl
theorem arm18_1 {p : Prop} (h : p := by first | exact fm0 | exact fm53 | exact OpH.lenM (t := 56) rfl (.sl _ _) (by kernel_rfl) | exact OpH.lenM (t := 56) rfl (.row _ _ _ _) (by kernel_rfl) | exact OpH.lenM (t := 56) rfl (.full _ _) (by kernel_rfl) | exact OpH.len (t := 56) rfl slP (by kernel_rfl) | exact OpH.lenNil (t := 56) rfl (by kernel_rfl) | exact fm6 | exact OpH.indexS (t := 56) (k := 7) rfl slP rfl rfl (by kernel_rfl) (map_at bd) rfl | exact OpH.fieldC (s := 102) (f := 0) (off := 0) rfl (by kernel_rfl) rfl | exact OpH.fieldB (s := 102) (f := 0) (off := 0) rfl (by kernel_rfl) rfl | exact fm52 | exact OpH.fieldC (s := 102) (f := 1) (off := 1) rfl (by kernel_rfl) rfl | exact OpH.fieldB (s := 102) (f := 1) (off := 1) rfl (by kernel_rfl) rfl | exact fm64 | exact lit_53_1 rfl | exact fm4 | fail) : p := h
theorem stpCaoS_2 {G G' : Prop} (h' : G') (h : Hidd G' → G := by (first | (intro h; (first | (refine LT.consT ?_; (first | refine T.appNil (t := 53) (e := 62) (k := 6) (bytes := 48) rfl rfl srP (by kernel_rfl) szP (by decide) rfl ?_ | refine T.app (t := 53) (e := 62) (k := 6) (bytes := 48) rfl rfl srP (by kernel_rfl) szP (by decide) rfl rfl ?_)) | (apply LT.cons1; exact arm18_1; (try decide))); exact h.1) | fail)) : G := h ⟨h'⟩
set_option maxRecDepth 100000 in
set_option maxHeartbeats 2000000 in
theorem g_r8Entries (l : List Slt) (hl : l.length ≤ 65536) : Good Tryz.prog 18 [.sl 7 (l.map encS)] (.row 3 62 6 ((entsS l).map encE)) := by
  refine Good.of_body (T := [(0, _)]) Tryz.func18 rfl rfl rfl ?_
  intro K0 w0 hno
  repeat' (first | refine stpCaoS_2 ?_ | refine stp ?_ | (refine stq ?_ ?_ <;> intro _))
  refine CT.loopX (fun k : Nat => (⟨[(0, .sl 7 (l.map encS)), (3, .row 3 62 6 ((entsS (l.take k)).map encE)), (4, .val (.int .i64 k))], [], []⟩ : St))
    (fun k => k ≤ l.length) (fun k => l.length - k) 0 ?_ (by omega) ?_
  · rw [show entsS (l.take 0) = [] by rw [List.take_zero]; rfl]
    exact subT
  rintro k hk
  by_cases hlt : k < l.length
  · have hel : (entsS (l.take k)).length ≤ 65536 := by
      have := entsS_length (l.take k)
      rw [List.length_take] at this; omega
    have hst := entsS_step hlt
    cases hs : l[k] with
    | mk v e =>
      have hat := slot_at hlt hs
      rw [hs] at hst
      cases v with
      | true =>
        rw [if_pos rfl] at hst
        repeat' (first | (apply LT.cons1; (first | exact OpH.indexS (t := 56) (k := 7) (j := k) rfl slP rfl rfl (by kernel_rfl) hat rfl); (try decide)) | refine stpCaoS_2 ?_ | refine stp ?_ | (refine stq ?_ ?_ <;> intro _))
        refine ⟨k + 1, by omega, by omega, ?_⟩
        rw [hst]
        exact subT
      | false =>
        rw [if_neg (by simp), List.append_nil] at hst
        repeat' (first | (apply LT.cons1; (first | exact OpH.indexS (t := 56) (k := 7) (j := k) rfl slP rfl rfl (by kernel_rfl) hat rfl); (try decide)) | refine stpCaoS_2 ?_ | refine stp ?_ | (refine stq ?_ ?_ <;> intro _))
        refine ⟨k + 1, by omega, by omega, ?_⟩
        rw [hst]
        exact subT
  · obtain rfl : k = l.length := by omega
    repeat' (first | refine stpCaoS_2 ?_ | refine stp ?_ | (refine stq ?_ ?_ <;> intro _))
    refine ⟨by first | exact .inl rfl | exact .inr rfl, _, (.cons (.tmp 2 (A := .row _ _ _ _) rfl (fun _ h => by cases h)) .nil), ?_, rfl⟩
    rw [List.take_length]
    rfl
end Go.Proofs.YtjmnnkhdadoehaaGreat

/- ref13.Gap, Below, Above. -/
namespace Go.Proofs.YtjmnnkhdadoehaaGreat
set_option linter.unusedSimpArgs false
set_option linter.unusedVariables false
open Go Go.RowKit Go.Shelf
attribute [local irreducible] OpH OpT LT CT HT Good
end Go.Proofs.YtjmnnkhdadoehaaGreat

/- ref13.Below, Above. -/
namespace Go.Proofs.YtjmnnkhdadoehaaGreat
set_option linter.unusedSimpArgs false
set_option linter.unusedVariables false
open Go Go.RowKit Go.Shelf
section
variable {P : Program} {N : Nat} {K0 : Know} {w0 : Bas} {Q : St → Prop} {ty : TypeId} {pos : String} {aft : Array Edge} {g : Option (Nat × Bool)} {tm : List (Nat × AV)} {bs : List (Nat × List AV)} {ar : List (Nat × Arr)} {dn : Nat}
end
theorem behind_behind (p w : List Int) (a : Int) : behind p (behind [a] w) = behind (p ++ [a]) w := by cases w <;> simp [behind]
theorem emFirst_down (l : List Slt) {i m : Nat} (h : i < m) (hm : m ≤ l.length) : emFirst l i m = if (nth l i).valid = true then emFirst l (i + 1) m else (i : Int) := by
  rcases emFirst_spec l (show i ≤ m by omega) with ⟨h1, h2⟩ | ⟨r, h1, h2, h3, h4, h5⟩
  · rw [h1, if_pos (h2 i (Nat.le_refl _) h)]
    rcases emFirst_spec l (show i + 1 ≤ m by omega) with ⟨g1, _⟩ | ⟨r, _, g2, g3, g4, _⟩
    · exact g1.symm
    · rw [h2 r (by omega) g3] at g4; cases g4
  · by_cases e : r = i
    · subst e; rw [h1, if_neg (by rw [h4]; simp)]
    · rw [h1, if_pos (h5 i (Nat.le_refl _) (by omega))]
      rcases emFirst_spec l (show i + 1 ≤ m by omega) with ⟨_, g2⟩ | ⟨r', g1, g2, g3, g4, g5⟩
      · rw [g2 r (by omega) h3] at h4; cases h4
      · rw [g1]
        congr 1
        rcases Nat.lt_trichotomy r r' with q | q | q
        · rw [g5 r (by omega) q] at h4; cases h4
        · exact q
        · rw [h5 r' (by omega) q] at g4; cases g4
structure InvB (l : List Slt) (W : List Int) (i m f : Nat) (way : List Int) : Prop where
  le : i ≤ m
  lm : m ≤ l.length
  val : m < l.length → (nth l m).valid = true
  fuel : m < l.length → l.length - m < f
  bnd : ∀ v ∈ way, 0 ≤ v ∧ v < l.length
  len : way.length ≤ i
  is : W = if 0 ≤ emFirst l i m then way ++ [emFirst l i m] else behind way (wayG (nextB l) l.length f m)
theorem InvB.next {l : List Slt} {W : List Int} {i m f : Nat} {way : List Int} (h : InvB l W i m f way) (him : i < m) (hv : (nth l i).valid = true) : InvB l W (i + 1) m f way := by
  have e := emFirst_down l him h.lm
  rw [if_pos hv] at e
  exact ⟨him, h.lm, h.val, h.fuel, h.bnd, by have := h.len; omega, by rw [← e]; exact h.is⟩
theorem InvB.hit {l : List Slt} {W : List Int} {i m f : Nat} {way : List Int} (h : InvB l W i m f way) (hi : i < l.length) (hv : (nth l i).valid = false) : W = way ++ [(i : Int)] := by
  have him : i < m := by
    have := h.le
    rcases Nat.lt_or_ge i m with c | c
    · exact c
    · have e : i = m := by omega
      subst e
      rw [h.val hi] at hv; cases hv
  have e := emFirst_down l him h.lm
  rw [if_neg (by rw [hv]; simp)] at e
  rw [h.is, e, if_pos (by omega)]
theorem InvB.push {l : List Slt} {W : List Int} {i f : Nat} {way : List Int} (h : InvB l W i i f way) (hi : i < l.length) : (nth l i).valid = true ∧ InvB l W (i + 1) (loF l (nth l i).e (i + 1)) (f - 1) (way ++ [(i : Int)]) := by
  refine ⟨h.val hi, ?_⟩
  obtain ⟨q1, q2, q3, q4⟩ := loF_spec l (nth l i).e (show i + 1 ≤ l.length by omega)
  obtain ⟨f, rfl⟩ : ∃ f', f = f' + 1 := ⟨f - 1, by have := h.fuel hi; omega⟩
  have hf := h.fuel hi
  have his := h.is
  rw [emFirst_start, if_neg (by omega)] at his
  have e1 : (nextB l i).1 = (loF l (nth l i).e (i + 1) : Int) := by unfold nextB; simp only [Int.toNat_natCast]
  have e2 : (nextB l i).2 = emFirst l (i + 1) (loF l (nth l i).e (i + 1)) := by unfold nextB; simp only [Int.toNat_natCast]
  refine ⟨q1, q2, fun hl => ?_, fun hl => by omega, fun v hv => ?_, by have := h.len; simp; omega, ?_⟩
  · have := q4 hl
    unfold loP at this
    rw [Bool.and_eq_true] at this
    exact this.1
  · rcases List.mem_append.1 hv with hv | hv
    · exact h.bnd v hv
    · rw [List.mem_singleton.1 hv]; omega
  · rw [his]
    by_cases c : 0 ≤ emFirst l (i + 1) (loF l (nth l i).e (i + 1))
    · rw [if_pos c, wayG_free ⟨by omega, by omega⟩ (by rw [e2]; exact c), e2]
      simp [behind]
    · rw [if_neg c, wayG_far ⟨by omega, by omega⟩ (by rw [e2]; exact c), e1, behind_behind]
      simp only [Nat.add_sub_cancel]
theorem InvB.done {l : List Slt} {W : List Int} {m f : Nat} {way : List Int} (h : InvB l W l.length m f way) : W = [] := by
  have e : m = l.length := by have := h.le; have := h.lm; omega
  subst e
  rw [h.is, emFirst_start, if_neg (by omega), wayG_out (by omega)]; rfl
attribute [local irreducible] OpH OpT LT CT HT Good
end Go.Proofs.YtjmnnkhdadoehaaGreat

/- ref13.Above. -/
namespace Go.Proofs.YtjmnnkhdadoehaaGreat
set_option linter.unusedSimpArgs false
set_option linter.unusedVariables false
open Go Go.RowKit Go.Shelf
structure InvA (l : List Slt) (W : List Int) (p : Nat) (m : Int) (f : Nat) (way : List Int) : Prop where
  lo : -1 ≤ m
  le : m < p
  lp : p ≤ l.length
  val : 0 ≤ m → (nth l m.toNat).valid = true
  fuel : 0 ≤ m → m.toNat < f
  bnd : ∀ v ∈ way, 0 ≤ v ∧ v < l.length
  len : way.length + p ≤ l.length
  is : W = if 0 ≤ emLast l (m + 1).toNat p then way ++ [emLast l (m + 1).toNat p] else behind way (wayG (nextA l) l.length f m)
theorem InvA.next {l : List Slt} {W : List Int} {i f : Nat} {m : Int} {way : List Int} (h : InvA l W (i + 1) m f way) (him : m ≠ i) (hv : (nth l i).valid = true) : InvA l W i m f way := by
  have h1 := h.lo
  have h2 := h.le
  have e := emLast_step l (show (m + 1).toNat ≤ i by omega)
  rw [if_pos hv] at e
  exact ⟨h1, by omega, by have := h.lp; omega, h.val, h.fuel, h.bnd, by have := h.len; omega, by rw [← e]; exact h.is⟩
theorem InvA.hit {l : List Slt} {W : List Int} {i f : Nat} {m : Int} {way : List Int} (h : InvA l W (i + 1) m f way) (hv : (nth l i).valid = false) : W = way ++ [(i : Int)] := by
  have h1 := h.lo
  have h2 := h.le
  have him : m ≠ i := fun e => by
    have := h.val (by omega)
    rw [e, Int.toNat_natCast, hv] at this; cases this
  have e := emLast_step l (show (m + 1).toNat ≤ i by omega)
  rw [if_neg (by rw [hv]; simp)] at e
  rw [h.is, e, if_pos (by omega)]
theorem InvA.push {l : List Slt} {W : List Int} {i f : Nat} {way : List Int} (h : InvA l W (i + 1) i f way) : (nth l i).valid = true ∧ InvA l W i (hiF l (nth l i).e i) (f - 1) (way ++ [(i : Int)]) := by
  have hv := h.val (by omega)
  rw [Int.toNat_natCast] at hv
  refine ⟨hv, ?_⟩
  have qb := lastTo_bound (hiP l (nth l i).e) i
  obtain ⟨_, q3⟩ := lastTo_spec (hiP l (nth l i).e) i
  have hq : hiF l (nth l i).e i = lastTo (hiP l (nth l i).e) i := rfl
  have hf := h.fuel (by omega)
  rw [Int.toNat_natCast] at hf
  obtain ⟨f, rfl⟩ : ∃ f', f = f' + 1 := ⟨f - 1, by omega⟩
  have his := h.is
  rw [show ((i : Int) + 1).toNat = i + 1 by omega, emLast_start, if_neg (by omega)] at his
  have e1 : (nextA l i).1 = hiF l (nth l i).e i := by unfold nextA; simp only [Int.toNat_natCast]
  have e2 : (nextA l i).2 = emLast l (hiF l (nth l i).e i + 1).toNat i := by unfold nextA; simp only [Int.toNat_natCast]
  have hlp := h.lp
  refine ⟨by omega, by omega, by omega, fun hl => ?_, fun hl => by omega, fun v hv' => ?_, by have := h.len; simp; omega, ?_⟩
  · have := q3 (by omega)
    rw [hq]
    unfold hiP at this
    rw [Bool.and_eq_true] at this
    exact this.1
  · rcases List.mem_append.1 hv' with hv' | hv'
    · exact h.bnd v hv'
    · rw [List.mem_singleton.1 hv']; omega
  · rw [his]
    by_cases c : 0 ≤ emLast l (hiF l (nth l i).e i + 1).toNat i
    · rw [if_pos c, wayG_free ⟨by omega, by omega⟩ (by rw [e2]; exact c), e2]
      simp [behind]
    · rw [if_neg c, wayG_far ⟨by omega, by omega⟩ (by rw [e2]; exact c), e1, behind_behind]
      simp only [Nat.add_sub_cancel]
theorem InvA.done {l : List Slt} {W : List Int} {m : Int} {f : Nat} {way : List Int} (h : InvA l W 0 m f way) : W = [] := by
  have h1 := h.lo
  have h2 := h.le
  have e : m = -1 := by omega
  subst e
  rw [h.is, show ((-1 : Int) + 1).toNat = 0 from rfl, emLast_start, if_neg (by omega), wayG_out (by omega)]; rfl
attribute [local irreducible] OpH OpT LT CT HT Good
end Go.Proofs.YtjmnnkhdadoehaaGreat

/- ref13.Insert. -/
namespace Go.Proofs.YtjmnnkhdadoehaaGreat
set_option linter.unusedSimpArgs false
set_option linter.unusedVariables false
open Go Go.RowKit Go.Shelf
attribute [local irreducible] OpH OpT LT CT HT Good
end Go.Proofs.YtjmnnkhdadoehaaGreat

/- ref05.Tell, ref04.Meet, ref10.Simple. -/
namespace Go.Proofs.YtjmnnkhdadoehaaGreat
set_option linter.unusedSimpArgs false
set_option linter.unusedVariables false
open Go Go.RowKit Go.Shelf
def ClearS (xs : List Ent) (i j : Nat) : Prop := ∀ (p q : Nat) e f, xs[p]? = some e → xs[q]? = some f → q < p → (p < i ∨ p = i ∧ q < j) → ¬ (e.len = f.len ∧ rMeet e.w f.w = true)
theorem ClearS.next {xs : List Ent} {i : Nat} (h : ClearS xs i i) : ClearS xs (i + 1) 0 := fun p q e f h1 h2 h3 h4 => h p q e f h1 h2 h3 (by omega)
theorem ClearS.step {xs : List Ent} {i j : Nat} (h : ClearS xs i j) (hi : i < xs.length) (hj : j < xs.length) (hn : ¬ (xs[i].len = xs[j].len ∧ rMeet xs[i].w xs[j].w = true)) : ClearS xs i (j + 1) := fun p q e f h1 h2 h3 h4 => by
  by_cases e1 : p = i ∧ q = j
  · obtain ⟨rfl, rfl⟩ := e1
    rw [List.getElem?_eq_getElem hi] at h1
    rw [List.getElem?_eq_getElem hj] at h2
    injection h1 with h1; injection h2 with h2
    rw [← h1, ← h2]; exact hn
  · exact h p q e f h1 h2 h3 (by omega)
theorem SimpleR.not {xs : List Ent} {i j : Nat} (hi : i < xs.length) (hj : j < i) (hn : xs[i].len = xs[j].len ∧ rMeet xs[i].w xs[j].w = true) : ¬ SimpleR xs := fun h => by
  have := (List.pairwise_iff_getElem.1 h) j i (by omega) hi hj
  exact this hn
attribute [local irreducible] OpH OpT LT CT HT Good GoodO CTI rMeet rMatch
end Go.Proofs.YtjmnnkhdadoehaaGreat

/- law10.same, merge.Simple, merge.Mode, word.Covers, word.Free. -/
namespace Go.Proofs.YtjmnnkhdadoehaaGreat
set_option linter.unusedSimpArgs false
set_option linter.unusedVariables false
open Go Go.RowKit Go.Shelf
attribute [local irreducible] OpH OpT LT CT HT Good rMeet rMatch
theorem arm33_1 {p : Prop} (h : p := by first | exact fm0 | exact fm53 | exact fm2 | exact fm5 | exact fm54 | exact fm55 | fail) : p := h
set_option maxRecDepth 100000 in
set_option maxHeartbeats 2000000 in
theorem g_Mode (n : Int) : Good Tryz.prog 33 [.val (.int .i64 n)] (.val (.bool (decide (0 ≤ n ∧ n ≤ 2)))) := by
  refine Good.of_body (T := [(0, _)]) Tryz.func33 rfl rfl rfl ?_
  intro K0 w0 hno
  by_cases h1 : 0 ≤ n
  · by_cases h2 : n ≤ 2
    · repeat' (first | ((first | apply LT.cons1 | (apply LT.guard1; rfl; rfl; rfl; decide)); exact arm33_1; (try decide)) | refine stp ?_ | (refine stq ?_ ?_ <;> intro _))
      refine ⟨by first | exact .inl rfl | exact .inr rfl, _, (.cons (.tmp 2 (A := .val _) rfl (fun _ h => by cases h)) .nil), ?_, rfl⟩
      simp [h1, h2, retsV]
    · repeat' (first | ((first | apply LT.cons1 | (apply LT.guard1; rfl; rfl; rfl; decide)); exact arm33_1; (try decide)) | refine stp ?_ | (refine stq ?_ ?_ <;> intro _))
      refine ⟨by first | exact .inl rfl | exact .inr rfl, _, (.cons (.tmp 2 (A := .val _) rfl (fun _ h => by cases h)) .nil), ?_, rfl⟩
      simp [h1, h2, retsV]
  · repeat' (first | ((first | apply LT.cons1 | (apply LT.guard1; rfl; rfl; rfl; decide)); exact arm33_1; (try decide)) | refine stp ?_ | (refine stq ?_ ?_ <;> intro _))
    refine ⟨by first | exact .inl rfl | exact .inr rfl, _, (.cons (.tmp 2 (A := .val _) rfl (fun _ h => by cases h)) .nil), ?_, rfl⟩
    simp [h1, retsV]
end Go.Proofs.YtjmnnkhdadoehaaGreat
