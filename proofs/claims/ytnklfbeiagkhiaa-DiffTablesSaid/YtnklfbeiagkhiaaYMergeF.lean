/- What a merged word matches; what merged rows tell, in plain Lean. -/
import Derived.Test.YtnklfbeiagkhiaaYMergeC
import Derived.Test.YtnklfbeiagkhiaaYLawTells
import Derived.Test.YtnklfbeiagkhiaaYLen
import Derived.Test.YtnklfbeiagkhiaaYSimpleW
import Derived.Test.YtnklfbeiagkhiaaYGoods
import Derived.Test.YtnklfbeiagkhiaaYAbs15
import Derived.Test.YtnklfbeiagkhiaaYPfxW
import Derived.Test.YtnklfbeiagkhiaaYTab
namespace Go.Proofs.Ytnklfbeiagkhiaa
set_option linter.unusedSimpArgs false
set_option linter.unusedVariables false
open Go
theorem merge_bits {x y : W2} (hx : x.ok) (hy : y.ok) (h : wMergeIs x y = true) : x.m = y.m ∧ ∃ kk, kk < 128 ∧ abit x.m kk = true ∧ (abit x.v kk != abit y.v kk) = true ∧ (∀ i, i < 128 → i ≠ kk → abit x.m i = true → abit x.v i = abit y.v i) ∧ (∀ i, i < 128 → abit (wMergeW x y).m i = (abit x.m i && !decide (i = kk))) ∧ ∀ i, i < 128 → abit (wMergeW x y).v i = (abit x.v i && (abit x.m i && !decide (i = kk))) := by
  have h0 := h
  rw [← mergeIs_ref hx hy] at h
  unfold rMergeIs at h
  simp only [Bool.and_eq_true, decide_eq_true_eq] at h
  obtain ⟨kk, h1, h2, h3, h4⟩ := lastTo_one 128 h.2
  have hd : (aDiffer x.v y.v x.m).ok := ok_and (ok_xor hx.1 hy.1) hx.2
  have hm : abit x.m kk = true := by unfold mDif at h3; cases hq : abit x.m kk <;> simp_all
  have hb : ∀ i, i < 128 → abit (aXor x.m (aDiffer x.v y.v x.m)) i = (abit x.m i && !decide (i = kk)) := fun i hi => by
    rw [abit_xor hx.2 hd, dif_eq hx hy]
    by_cases e : i = kk
    · subst e; rw [h3, hm]; simp
    · rw [h4 i hi e]; simp [e]
  refine ⟨h.1, kk, h1, hm, ?_, ?_, ?_, ?_⟩
  · unfold mDif at h3; rw [hm, Bool.true_and] at h3; exact h3
  · intro i hi e hmi
    have := h4 i hi e
    unfold mDif at this; rw [hmi] at this; simpa using this
  · intro i hi
    unfold wMergeW
    rw [if_pos h0]
    exact hb i hi
  · intro i hi
    unfold wMergeW
    rw [if_pos h0]
    show abit (aAnd x.v (aXor x.m (aDiffer x.v y.v x.m))) i = _
    rw [abit_and hx.1 (ok_xor hx.2 hd), hb i hi]
theorem rMatch_iff {x : W2} {a : A2} : rMatch x a = true ↔ ∀ i, i < 128 → abit x.m i = true → abit x.v i = abit a i := by
  unfold rMatch
  rw [allTo_iff]
  refine forall_congr' fun i => forall_congr' fun _ => ?_
  unfold rMatchP
  cases abit x.m i <;> cases abit x.v i <;> cases abit a i <;> simp
theorem rMeet_iff {x y : W2} : rMeet x y = true ↔ ∀ i, i < 128 → abit x.m i = true → abit y.m i = true → abit x.v i = abit y.v i := by
  unfold rMeet
  rw [allTo_iff]
  refine forall_congr' fun i => forall_congr' fun _ => ?_
  unfold rMeetP
  cases abit x.m i <;> cases abit y.m i <;> cases abit x.v i <;> cases abit y.v i <;> simp
theorem merge_match {x y : W2} {a : A2} (hx : x.ok) (hy : y.ok) (h : wMergeIs x y = true) : rMatch (wMergeW x y) a = true ↔ rMatch x a = true ∨ rMatch y a = true := by
  obtain ⟨hmm, kk, h1, h2, h3, h4, h5, h6⟩ := merge_bits hx hy h
  rw [rMatch_iff, rMatch_iff, rMatch_iff]
  constructor
  · intro hW
    have hx' : ∀ i, i < 128 → i ≠ kk → abit x.m i = true → abit x.v i = abit a i := fun i hi e hm => by
      have := hW i hi (by rw [h5 i hi, hm]; simp [e])
      rw [h6 i hi, hm] at this
      simpa [e] using this
    by_cases e : abit x.v kk = abit a kk
    · refine .inl fun i hi hm => ?_
      by_cases ei : i = kk
      · subst ei; exact e
      · exact hx' i hi ei hm
    · refine .inr fun i hi hm => ?_
      by_cases ei : i = kk
      · subst ei
        cases e1 : abit x.v i <;> cases e2 : abit y.v i <;> cases e3 : abit a i <;> simp_all
      · rw [← hmm] at hm
        rw [← h4 i hi ei hm]
        exact hx' i hi ei hm
  · intro hor i hi hm
    rw [h5 i hi] at hm
    simp only [Bool.and_eq_true, Bool.not_eq_true', decide_eq_false_iff_not] at hm
    rw [h6 i hi, hm.1, decide_eq_false hm.2]
    simp only [Bool.not_false, Bool.and_self, Bool.and_true]
    rcases hor with hx' | hy'
    · exact hx' i hi hm.1
    · rw [h4 i hi hm.2 hm.1]
      exact hy' i hi (by rw [← hmm]; exact hm.1)
/-- Two that meet both match an address. -/
theorem meet_some {x y : W2} (h : rMeet x y = true) : ∃ a : A2, rMatch x a = true ∧ rMatch y a = true := by
  rw [rMeet_iff] at h
  refine ⟨words fun i => if abit x.m i = true then abit x.v i else abit y.v i, ?_, ?_⟩
  · rw [rMatch_iff]
    intro i hi hm
    rw [words_bit _ hi, if_pos hm]
  · rw [rMatch_iff]
    intro i hi hm
    rw [words_bit _ hi]
    by_cases e : abit x.m i = true
    · rw [if_pos e]; exact (h i hi e hm).symm
    · rw [if_neg e]
/-- One word tells nothing but what the other one tells, and the same. -/
def Cov (x y : W2) : Prop := ∀ i, i < 128 → abit x.m i = true → abit y.m i = true ∧ abit x.v i = abit y.v i
theorem Cov.refl (x : W2) : Cov x x := fun _ _ h => ⟨h, rfl⟩
theorem Cov.trans {x y z : W2} (h1 : Cov x y) (h2 : Cov y z) : Cov x z := fun i hi hm => by
  obtain ⟨a, b⟩ := h1 i hi hm
  obtain ⟨c, d⟩ := h2 i hi a
  exact ⟨c, b.trans d⟩
/-! ### Rows -/
theorem keepTo_perm (l : List Ent) {i k : Nat} (hik : i < k) : ∀ n, ((List.range n).map (nth l)).Perm (keepTo l i k n ++ ((if i < n then [nth l i] else []) ++ (if k < n then [nth l k] else [])))
  | 0 => by simp [keepTo]
  | n + 1 => by
    have ih := keepTo_perm l hik n
    rw [List.range_succ, List.map_append, List.map_cons, List.map_nil]
    by_cases h1 : n = i
    · subst h1
      rw [keepTo_skip (.inl rfl)]
      rw [if_neg (by omega), if_neg (by omega), List.append_nil, List.append_nil] at ih
      rw [if_pos (by omega), if_neg (by omega), List.append_nil]
      exact ih.append_right _
    · by_cases h2 : n = k
      · subst h2
        rw [keepTo_skip (.inr rfl)]
        rw [if_pos hik, if_neg (by omega), List.append_nil] at ih
        rw [if_pos (by omega), if_pos (by omega), ← List.append_assoc]
        exact ih.append_right _
      · have e : keepTo l i k (n + 1) = keepTo l i k n ++ [nth l n] := by
          unfold keepTo
          rw [List.range_succ, List.filter_append, List.filter_cons_of_pos (by simp [h1, h2]), List.filter_nil, List.map_append, List.map_cons, List.map_nil]
        have a1 : (if i < n + 1 then [nth l i] else []) = (if i < n then [nth l i] else []) := by
          by_cases h : i < n
          · rw [if_pos h, if_pos (by omega)]
          · rw [if_neg h, if_neg (by omega)]
        have a2 : (if k < n + 1 then [nth l k] else []) = (if k < n then [nth l k] else []) := by
          by_cases h : k < n
          · rw [if_pos h, if_pos (by omega)]
          · rw [if_neg h, if_neg (by omega)]
        rw [e, a1, a2, List.append_assoc]
        refine (ih.append_right _).trans ?_
        rw [List.append_assoc]
        exact List.Perm.append_left _ List.perm_append_comm
theorem map_nth (l : List Ent) : (List.range l.length).map (nth l) = l := by
  apply List.ext_getElem
  · simp
  · intro i h1 h2
    rw [List.getElem_map, List.getElem_range, nth_at l h2]
theorem keepTo_all {l : List Ent} {i k : Nat} (hik : i < k) (hk : k < l.length) : l.Perm (nth l i :: nth l k :: keepTo l i k l.length) := by
  have h := keepTo_perm l hik l.length
  rw [map_nth, if_pos (by omega), if_pos hk] at h
  exact h.trans List.perm_append_comm
/-- What a step of merging does: of a row with two that merge, one that these come to, and the others. -/
theorem step_is {l l' : List Ent} (h : stepM l = some l') (hok : ∀ x ∈ l, x.w.ok) : ∃ (x y m : Ent) (r : List Ent), l.Perm (x :: y :: r) ∧ l'.Perm (m :: r) ∧ x.w.ok ∧ y.w.ok ∧ y.len = x.len ∧ y.act = x.act ∧ wMergeIs x.w y.w = true ∧ m = ⟨wMergeW x.w y.w, x.len, x.act⟩ := by
  unfold stepM at h
  rw [Option.map_eq_some_iff] at h
  obtain ⟨⟨i, k⟩, h1, rfl⟩ := h
  obtain ⟨h2, h3, h4⟩ := fst2_spec h1
  unfold goodP at h4
  simp only [Bool.and_eq_true, decide_eq_true_eq] at h4
  refine ⟨nth l i, nth l k, mEnt l i k, keepTo l i k l.length, keepTo_all h2 h3, (sortE_perm _).trans List.perm_append_comm, ?_, ?_, h4.1, h4.2.1, h4.2.2, rfl⟩
  · rw [nth_at l (by omega : i < l.length)]; exact hok _ (List.getElem_mem _)
  · rw [nth_at l h3]; exact hok _ (List.getElem_mem _)
/-- An entry of that length and action matches. -/
def Hit (l : List Ent) (a : A2) (n c : Int) : Prop := ∃ x ∈ l, x.len = n ∧ x.act = c ∧ rMatch x.w a = true
theorem Hit.perm {l l' : List Ent} (h : l.Perm l') {a : A2} {n c : Int} : Hit l a n c ↔ Hit l' a n c :=
  ⟨fun ⟨x, h1, h2⟩ => ⟨x, h.mem_iff.1 h1, h2⟩, fun ⟨x, h1, h2⟩ => ⟨x, h.mem_iff.2 h1, h2⟩⟩
theorem hit_cons {x : Ent} {l : List Ent} {a : A2} {n c : Int} : Hit (x :: l) a n c ↔ (x.len = n ∧ x.act = c ∧ rMatch x.w a = true) ∨ Hit l a n c := by
  constructor
  · rintro ⟨y, hy, h⟩
    rcases List.mem_cons.1 hy with rfl | hy
    · exact .inl h
    · exact .inr ⟨y, hy, h⟩
  · rintro (h | ⟨y, hy, h⟩)
    · exact ⟨x, List.mem_cons_self, h⟩
    · exact ⟨y, List.mem_cons_of_mem _ hy, h⟩
theorem step_hit {l l' : List Ent} (h : stepM l = some l') (hok : ∀ x ∈ l, x.w.ok) (a : A2) (n c : Int) : Hit l' a n c ↔ Hit l a n c := by
  obtain ⟨x, y, m, r, h1, h2, ox, oy, e1, e2, hI, rfl⟩ := step_is h hok
  rw [Hit.perm h1, Hit.perm h2, hit_cons, hit_cons, hit_cons]
  dsimp only
  rw [merge_match ox oy hI, e1, e2]
  constructor
  · rintro (⟨p, q, s | s⟩ | s)
    · exact .inl ⟨p, q, s⟩
    · exact .inr (.inl ⟨p, q, s⟩)
    · exact .inr (.inr s)
  · rintro (⟨p, q, s⟩ | ⟨p, q, s⟩ | s)
    · exact .inl ⟨p, q, .inl s⟩
    · exact .inl ⟨p, q, .inr s⟩
    · exact .inr s
theorem simple_symm {x y : Ent} (h : ¬ (y.len = x.len ∧ rMeet y.w x.w = true)) : ¬ (x.len = y.len ∧ rMeet x.w y.w = true) := fun hc => h ⟨hc.1.symm, by rw [rMeet_comm]; exact hc.2⟩
theorem SimpleR.perm {l l' : List Ent} (h : l.Perm l') (hs : SimpleR l) : SimpleR l' := by
  unfold SimpleR at *
  exact (h.pairwise_iff (fun {x y} => simple_symm)).1 hs
theorem step_simple {l l' : List Ent} (h : stepM l = some l') (hok : ∀ x ∈ l, x.w.ok) (hs : SimpleR l) : SimpleR l' := by
  obtain ⟨x, y, m, r, h1, h2, ox, oy, e1, e2, hI, rfl⟩ := step_is h hok
  have hs := SimpleR.perm h1 hs
  obtain ⟨k1, hs⟩ := List.pairwise_cons.1 hs
  obtain ⟨k2, hs⟩ := List.pairwise_cons.1 hs
  refine SimpleR.perm h2.symm (List.pairwise_cons.2 ⟨fun z hz hc => ?_, hs⟩)
  dsimp only at hc
  obtain ⟨a, a1, a2⟩ := meet_some hc.2
  rcases (merge_match ox oy hI).1 a2 with a3 | a3
  · exact k1 z (List.mem_cons_of_mem _ hz) ⟨hc.1, both_meet a1 a3⟩
  · exact k2 z hz ⟨by rw [hc.1, e1], both_meet a1 a3⟩
theorem mergeN_hit : ∀ (n : Nat) (l : List Ent), (∀ x ∈ l, x.w.ok) → ∀ (a : A2) (m c : Int), Hit (mergeN n l) a m c ↔ Hit l a m c
  | 0, l, _, a, m, c => Iff.rfl
  | n + 1, l, hok, a, m, c => by
    cases hs : stepM l with
    | none => simp only [mergeN, hs]
    | some l' =>
      simp only [mergeN, hs]
      exact (mergeN_hit n l' (step_ok hs hok) a m c).trans (step_hit hs hok a m c)
theorem mergeN_simple : ∀ (n : Nat) (l : List Ent), (∀ x ∈ l, x.w.ok) → SimpleR l → SimpleR (mergeN n l)
  | 0, l, _, h => h
  | n + 1, l, hok, h => by
    cases hs : stepM l with
    | none => simp only [mergeN, hs]; exact h
    | some l' => simp only [mergeN, hs]; exact mergeN_simple n l' (step_ok hs hok) (step_simple hs hok h)
theorem sort_ok {l : List Ent} (h : ∀ x ∈ l, x.w.ok) : ∀ x ∈ sortE l, x.w.ok := fun x hx => h x (sortE_mem.1 hx)
theorem mergeE_hit {l : List Ent} (hok : ∀ x ∈ l, x.w.ok) (a : A2) (m c : Int) : Hit (mergeE l) a m c ↔ Hit l a m c := (mergeN_hit _ _ (sort_ok hok) a m c).trans (Hit.perm (sortE_perm l))
theorem mergeE_simple {l : List Ent} (hok : ∀ x ∈ l, x.w.ok) (h : SimpleR l) : SimpleR (mergeE l) := mergeN_simple _ _ (sort_ok hok) (SimpleR.perm (sortE_perm l).symm h)
theorem tell_hit {l m : List Ent} {a : A2} (ha : a.ok) (hl : ∀ x ∈ l, x.w.ok) (hm : ∀ x ∈ m, x.w.ok) (hs : SimpleR l) (h : ∀ n c, Hit m a n c ↔ Hit l a n c) : tell m a = tell l a := by
  have ml : ∀ x ∈ l, wMatch x.w a = rMatch x.w a := fun x hx => match_ref (hl x hx) ha
  have mm : ∀ x ∈ m, wMatch x.w a = rMatch x.w a := fun x hx => match_ref (hm x hx) ha
  have hu := hs.uniq ml
  rcases tell_is m a with ⟨h1, h2⟩ | ⟨e, he, h1, h2, h3⟩
  · rcases tell_is l a with ⟨k1, k2⟩ | ⟨f, hf, k1, k2, k3⟩
    · rw [h1, k1]
    · obtain ⟨x, hx, _, _, q⟩ := (h f.len f.act).2 ⟨f, hf, rfl, rfl, by rw [← ml f hf]; exact k1⟩
      have := h2 x hx
      rw [mm x hx, q] at this; cases this
  · obtain ⟨x, hx, q1, q2, q3⟩ := (h e.len e.act).1 ⟨e, he, rfl, rfl, by rw [← mm e he]; exact h1⟩
    rw [h3, ← q2]
    refine (tell_best hu hx (by rw [ml x hx]; exact q3) fun f hf hfm => ?_).symm
    obtain ⟨z, hz, p1, p2, p3⟩ := (h f.len f.act).2 ⟨f, hf, rfl, rfl, by rw [← ml f hf]; exact hfm⟩
    have := h2 z hz (by rw [mm z hz]; exact p3)
    omega
theorem mergeE_tell {l : List Ent} {a : A2} (ha : a.ok) (hok : ∀ x ∈ l, x.w.ok) (h : SimpleR l) : tell (mergeE l) a = tell l a := tell_hit ha hok (mergeE_ok hok) h (mergeE_hit hok a)
/-- Each of the first row is covered by one of the second as long, with its action. -/
def Part (l m : List Ent) : Prop := ∀ x ∈ l, ∃ y ∈ m, y.len = x.len ∧ y.act = x.act ∧ Cov y.w x.w
theorem Part.trans {l m r : List Ent} (h1 : Part l m) (h2 : Part m r) : Part l r := fun x hx => by
  obtain ⟨y, hy, a1, a2, a3⟩ := h1 x hx
  obtain ⟨z, hz, b1, b2, b3⟩ := h2 y hy
  exact ⟨z, hz, b1.trans a1, b2.trans a2, b3.trans a3⟩
theorem Part.perm {l m : List Ent} (h : l.Perm m) : Part l m := fun x hx => ⟨x, h.mem_iff.1 hx, rfl, rfl, Cov.refl _⟩
end Go.Proofs.Ytnklfbeiagkhiaa

/- A table's entries: which address they match, and what they tell; in plain Lean. -/
namespace Go.Proofs.Ytnklfbeiagkhiaa
set_option linter.unusedSimpArgs false
set_option linter.unusedVariables false
open Go
theorem cut_canon {p : Pfx} (h : Canon p) : pMake p.a p.len = p := by
  unfold pMake
  rw [clamp_id h.lo h.hi]
  have : aCut p.a p.len = p.a := ok_ext (ok_and h.ok (mask_ok _)) h.ok fun i hi => by
    unfold aCut
    rw [abit_and h.ok (mask_ok _), mask_bit _ hi]
    by_cases c : (i : Int) < p.len
    · rw [decide_eq_true c, Bool.and_true]
    · rw [decide_eq_false c, Bool.and_false, h.zero i hi (by omega)]
  rw [this]
/-- A route's entry. -/
def entR (r : Rte) : Ent := ⟨⟨r.p.a, aMask r.p.len⟩, r.p.len, r.act⟩
theorem entR_ok {r : Rte} (h : Canon r.p) : (entR r).w.ok := ⟨h.ok, mask_ok _⟩
theorem entR_match {r : Rte} (h : Canon r.p) {a : A2} : rMatch (entR r).w a = rpMatch r.p a := by
  rw [Bool.eq_iff_iff, rMatch_iff, rpm_iff h]
  have := h.hi
  constructor
  · intro q i hi
    exact q i (by omega) (by show abit (aMask r.p.len) i = true; rw [mask_bit _ (by omega)]; exact decide_eq_true hi)
  · intro q i hi hm
    have hm : abit (aMask r.p.len) i = true := hm
    rw [mask_bit _ hi] at hm
    exact q i (of_decide_eq_true hm)
theorem ents_ok {rs : List Rte} (h : ∀ r ∈ rs, Canon r.p) : ∀ x ∈ rs.map entR, x.w.ok := fun x hx => by
  obtain ⟨r, hr, rfl⟩ := List.mem_map.1 hx
  exact entR_ok (h r hr)
theorem ents_simple {rs : List Rte} (h : ∀ r ∈ rs, Canon r.p) (hs : rs.Pairwise fun x y => pLt x.p y.p) : SimpleR (rs.map entR) := by
  unfold SimpleR
  rw [List.pairwise_map]
  refine hs.imp_of_mem fun {x y} hx hy hlt hc => ?_
  obtain ⟨a, a1, a2⟩ := meet_some hc.2
  rw [entR_match (h y hy)] at a1
  rw [entR_match (h x hx)] at a2
  exact hlt.ne (same_match (h x hx) (h y hy) hc.1.symm a2 a1)
/-- The best route for an address: length by length, from the longest. -/
def bestAtO (l : List Rte) (a : A2) (n : Int) : Option Rte := l.find? fun r => decide (r.p.len = n) && rpMatch r.p a
def bestTo' (l : List Rte) (a : A2) : Nat → Option Rte
  | 0 => none
  | k + 1 => (bestAtO l a k).or (bestTo' l a k)
def bestO (l : List Rte) (a : A2) : Option Rte := bestTo' l a 129
theorem bestAt_none {l : List Rte} {a : A2} {n : Int} : bestAtO l a n = none ↔ ∀ r ∈ l, r.p.len = n → rpMatch r.p a = false := by
  unfold bestAtO
  rw [List.find?_eq_none]
  refine forall_congr' fun r => forall_congr' fun _ => ?_
  rw [Bool.and_eq_true, decide_eq_true_eq]
  constructor
  · intro h e
    cases hq : rpMatch r.p a with
    | false => rfl
    | true => exact absurd ⟨e, hq⟩ h
  · rintro h ⟨e, q⟩
    rw [h e] at q; cases q
theorem bestTo_skip {l : List Rte} {a : A2} {n : Nat} : ∀ m, n ≤ m → (∀ k : Nat, n ≤ k → k < m → bestAtO l a k = none) → bestTo' l a m = bestTo' l a n
  | 0, h, _ => by rw [show n = 0 by omega]
  | m + 1, h, hk => by
    by_cases e : n = m + 1
    · rw [e]
    · rw [bestTo', hk m (by omega) (by omega), Option.none_or]
      exact bestTo_skip m (by omega) fun k h1 h2 => hk k h1 (by omega)
theorem best_hit' {l : List Rte} {a : A2} {n : Nat} {r : Rte} (hn : n ≤ 128) (hk : ∀ k : Nat, n < k → k ≤ 128 → bestAtO l a k = none) (h : bestAtO l a n = some r) : bestO l a = some r := by
  unfold bestO
  rw [bestTo_skip (n := n + 1) 129 (by omega) fun k h1 h2 => hk k (by omega) (by omega), bestTo', h]
  rfl
theorem best_none' {l : List Rte} {a : A2} (hk : ∀ k : Nat, k ≤ 128 → bestAtO l a k = none) : bestO l a = none := by
  unfold bestO
  rw [bestTo_skip (n := 0) 129 (by omega) fun k h1 h2 => hk k (by omega)]
  rfl
theorem bestO_spec {l : List Rte} (hc : ∀ r ∈ l, Canon r.p) (a : A2) : (bestO l a = none ∧ ∀ r ∈ l, rpMatch r.p a = false) ∨ ∃ r ∈ l, bestO l a = some r ∧ rpMatch r.p a = true ∧ ∀ s ∈ l, rpMatch s.p a = true → s.p.len ≤ r.p.len := by
  suffices H : ∀ m : Nat, m ≤ 129 → (∀ k : Nat, m ≤ k → k < 129 → bestAtO l a k = none) → ((bestO l a = none ∧ ∀ r ∈ l, rpMatch r.p a = false) ∨ ∃ r ∈ l, bestO l a = some r ∧ rpMatch r.p a = true ∧ ∀ s ∈ l, rpMatch s.p a = true → s.p.len ≤ r.p.len) from
    H 129 (Nat.le_refl _) fun k h1 h2 => by omega
  intro m
  induction m with
  | zero =>
    intro _ hk
    refine .inl ⟨best_none' fun k hk' => hk k (by omega) (by omega), fun r hr => ?_⟩
    have := hc r hr
    exact (bestAt_none.1 (hk r.p.len.toNat (by omega) (by have := this.hi; omega))) r hr (by have := this.lo; omega)
  | succ m ih =>
    intro hm hk
    cases hb : bestAtO l a m with
    | none =>
      refine ih (by omega) fun k h1 h2 => ?_
      by_cases e : k = m
      · subst e; exact hb
      · exact hk k (by omega) h2
    | some r =>
      have h1 := List.mem_of_find?_eq_some hb
      have h2 := List.find?_some hb
      rw [Bool.and_eq_true, decide_eq_true_eq] at h2
      refine .inr ⟨r, h1, best_hit' (by omega) (fun k h3 h4 => hk k (by omega) (by omega)) hb, h2.2, fun s hs hsm => ?_⟩
      refine Classical.byContradiction fun hlt => ?_
      have hcs := hc s hs
      have := bestAt_none.1 (hk s.p.len.toNat (by have := h2.1; omega) (by have := hcs.hi; omega)) s hs (by have := hcs.lo; omega)
      rw [this] at hsm; cases hsm
def tellR (l : List Rte) (a : A2) : Int := match bestO l a with | some r => r.act | none => 0
/-- What a row's entries tell is what its best route says. -/
theorem tell_ents {rs : List Rte} (h : ∀ r ∈ rs, Canon r.p) (hs : rs.Pairwise fun x y => pLt x.p y.p) {a : A2} (ha : a.ok) : tell (rs.map entR) a = tellR rs a := by
  have ml : ∀ x ∈ rs.map entR, wMatch x.w a = rMatch x.w a := fun x hx => match_ref (ents_ok h x hx) ha
  have hm : ∀ r ∈ rs, wMatch (entR r).w a = rpMatch r.p a := fun r hr => by rw [ml _ (List.mem_map_of_mem hr), entR_match (h r hr)]
  unfold tellR
  rcases bestO_spec h a with ⟨h1, h2⟩ | ⟨r, hr, h1, h2, h3⟩
  · rw [h1]
    rcases tell_is (rs.map entR) a with ⟨k1, _⟩ | ⟨e, he, k1, _, _⟩
    · exact k1
    · obtain ⟨r, hr, rfl⟩ := List.mem_map.1 he
      rw [hm r hr, h2 r hr] at k1; cases k1
  · rw [h1]
    refine tell_best ((ents_simple h hs).uniq ml) (List.mem_map_of_mem hr) (by rw [hm r hr]; exact h2) fun f hf hfm => ?_
    obtain ⟨s, hs', rfl⟩ := List.mem_map.1 hf
    rw [hm s hs'] at hfm
    exact h3 s hs' hfm
theorem keepR_canon {rs : List Rte} (ht : TableR rs) : ∀ r ∈ keepR rs, Canon r.p := fun r hr => ht.canon r ((keepR_spec ht).sub r hr)
/-- Of those that say something new the best one says what the best one of all does. -/
theorem tell_keep {rs : List Rte} (ht : TableR rs) (a : A2) : tellR (keepR rs) a = tellR rs a := by
  have hk := keepR_spec ht
  have hkc := keepR_canon ht
  unfold tellR
  rcases bestO_spec ht.canon a with ⟨h1, h2⟩ | ⟨r, hr, h1, h2, h3⟩
  · rcases bestO_spec hkc a with ⟨k1, _⟩ | ⟨s, hs, k1, k2, k3⟩
    · rw [h1, k1]
    · rw [h2 s (hk.sub s hs)] at k2; cases k2
  · have hsame : ∀ s ∈ keepR rs, rpMatch s.p a = true → s.p.len = r.p.len → s = r := fun s hs hm hl => sorted_same ht.sorted (hk.sub s hs) hr (same_match (hkc s hs) (ht.canon r hr) hl hm h2)
    by_cases hin : r ∈ keepR rs
    · rcases bestO_spec hkc a with ⟨k1, k2⟩ | ⟨s, hs, k1, k2, k3⟩
      · rw [k2 r hin] at h2; cases h2
      · have e1 := h3 s (hk.sub s hs) k2
        have e2 := k3 r hin h2
        rw [h1, k1, hsame s hs k2 (by omega)]
    · have hex : ∃ c, IsCover (keepR rs) r.p c ∧ c.act = r.act := by
        refine Classical.byContradiction fun hno => hin ((hk.iff r hr).2 fun c hc e => hno ⟨c, hc, e⟩)
      obtain ⟨c, hc, hca⟩ := hex
      have hcc := hkc c hc.mem
      have hrc := ht.canon r hr
      have hcm : rpMatch c.p a = true := PCov.match' hcc hrc ⟨by have := hc.short; omega, hc.hit⟩ h2
      rcases bestO_spec hkc a with ⟨k1, k2⟩ | ⟨s, hs, k1, k2, k3⟩
      · rw [k2 c hc.mem] at hcm; cases hcm
      · have e1 := k3 c hc.mem hcm
        have e2 := h3 s (hk.sub s hs) k2
        have hlt : s.p.len < r.p.len := by
          refine Classical.byContradiction fun hge => hin ?_
          rw [← hsame s hs k2 (by omega)]
          exact hs
        have e3 := hc.near s hs hlt (cov_of_match (hkc s hs) hrc (by omega) k2 h2).2
        have : s = c := sorted_same ht.sorted (hk.sub s hs) (hk.sub c hc.mem) (same_match (hkc s hs) hcc (by omega) k2 hcm)
        rw [h1, k1, this]
        exact hca
/-- A table's entries, in each mode. -/
noncomputable def buildE (rs : List Rte) (mode : Int) : List Ent :=
  if mode = 0 then sortE (rs.map entR) else if mode = 1 then sortE ((keepR rs).map entR) else mergeE ((keepR rs).map entR)
theorem keepR_length {rs : List Rte} (ht : TableR rs) : (keepR rs).length ≤ rs.length := by
  have hk := keepR_spec ht
  have e : keepR rs = rs.filter fun r => decide (r ∈ keepR rs) := sorted_eq hk.sorted (ht.sorted.sublist List.filter_sublist) fun r => by
    rw [List.mem_filter, decide_eq_true_eq]
    exact ⟨fun h => ⟨hk.sub r h, h⟩, fun h => h.2⟩
  rw [e]
  exact List.length_filter_le _ _
theorem buildE_says {rs : List Rte} (ht : TableR rs) {a : A2} (ha : a.ok) (mode : Int) : (∀ x ∈ buildE rs mode, x.w.ok) ∧ SimpleR (buildE rs mode) ∧ tell (buildE rs mode) a = tellR rs a := by
  have hk := keepR_spec ht
  have hkc := keepR_canon ht
  have o1 := ents_ok ht.canon
  have o2 := ents_ok hkc
  have s1 := ents_simple ht.canon ht.sorted
  have s2 := ents_simple hkc hk.sorted
  have srt : ∀ l : List Ent, (∀ x ∈ l, x.w.ok) → SimpleR l → tell (sortE l) a = tell l a := fun l hl hs => tell_hit ha hl (sort_ok hl) hs fun n c => Hit.perm (sortE_perm l)
  unfold buildE
  split
  · exact ⟨sort_ok o1, SimpleR.perm (sortE_perm _).symm s1, (srt _ o1 s1).trans (tell_ents ht.canon ht.sorted ha)⟩
  · split
    · exact ⟨sort_ok o2, SimpleR.perm (sortE_perm _).symm s2, (srt _ o2 s2).trans ((tell_ents hkc hk.sorted ha).trans (tell_keep ht a))⟩
    · exact ⟨mergeE_ok o2, mergeE_simple o2 s2, (mergeE_tell ha o2 s2).trans ((tell_ents hkc hk.sorted ha).trans (tell_keep ht a))⟩
theorem buildE_len {rs : List Rte} (ht : TableR rs) : (buildE rs 0).length = rs.length ∧ (buildE rs 1).length ≤ (buildE rs 0).length ∧ (buildE rs 2).length ≤ (buildE rs 1).length := by
  have h1 := keepR_length ht
  have h2 := mergeE_length ((keepR rs).map entR)
  rw [List.length_map] at h2
  unfold buildE
  rw [if_pos rfl, if_neg (by decide), if_pos rfl, if_neg (by decide), if_neg (by decide), sortE_length, sortE_length, List.length_map, List.length_map]
  exact ⟨rfl, h1, h2⟩
end Go.Proofs.Ytnklfbeiagkhiaa

/- law10.same, merge.Simple, merge.Mode, word.Covers, word.Free. -/
namespace Go.Proofs.Ytnklfbeiagkhiaa
set_option linter.unusedSimpArgs false
set_option linter.unusedVariables false
open Go Go.RowKit Go.Shelf
attribute [local irreducible] OpH OpT LT CT HT Good rMeet rMatch
theorem arm60_1 {p : Prop} (h : p := by first | exact OpH.assign (v := .val _) rfl | exact OpH.assign (v := .sl _ _) rfl | exact OpH.assign (v := .row _ _ _ _) rfl | exact OpH.assign (v := .full _ _) rfl | exact OpH.assign (v := .ptr _ _) rfl | exact OpH.assign (v := .cptr _) rfl | exact OpH.assign (v := .cloB _ _) rfl | exact OpH.assign (v := .clo _ _) rfl | exact OpH.assign (v := .pr _) rfl | exact OpH.assign (v := .arow _) rfl | exact OpH.assign (v := .aptr _ _ _ _) rfl | exact OpH.assign (v := .asub _ _ _ _) rfl | exact OpH.assign (v := .tup _) rfl | exact OpH.move (v := .val _) rfl | exact OpH.move (v := .sl _ _) rfl | exact OpH.move (v := .row _ _ _ _) rfl | exact OpH.move (v := .full _ _) rfl | exact OpH.move (v := .ptr _ _) rfl | exact OpH.move (v := .cptr _) rfl | exact OpH.move (v := .cloB _ _) rfl | exact OpH.move (v := .clo _ _) rfl | exact OpH.move (v := .pr _) rfl | exact OpH.move (v := .arow _) rfl | exact OpH.move (v := .aptr _ _ _ _) rfl | exact OpH.move (v := .asub _ _ _ _) rfl | exact OpH.move (v := .tup _) rfl | exact OpH.bin rfl rfl (pb_geq_t (by omega)) | exact OpH.bin rfl rfl (pb_geq_f (by omega)) | exact OpH.bin rfl rfl (pb_geq) | exact OpH.bin rfl rfl (pb_leq_t (by omega)) | exact OpH.bin rfl rfl (pb_leq_f (by omega)) | exact OpH.bin rfl rfl (pb_leq) | exact OpH.pick (b := true) (v := .val _) rfl rfl | exact OpH.pick (b := false) (v := .val _) rfl rfl | exact OpH.pick (b := true) (v := .sl _ _) rfl rfl | exact OpH.pick (b := false) (v := .sl _ _) rfl rfl | exact OpH.pick (b := true) (v := .row _ _ _ _) rfl rfl | exact OpH.pick (b := false) (v := .row _ _ _ _) rfl rfl | exact OpH.pick (b := true) (v := .full _ _) rfl rfl | exact OpH.pick (b := false) (v := .full _ _) rfl rfl | exact OpH.pickV rfl rfl rfl) : p := h
set_option maxRecDepth 100000 in
set_option maxHeartbeats 2000000 in
theorem g_Mode (n : Int) : Good Try.prog 60 [.val (.int .i64 n)] (.val (.bool (decide (0 ≤ n ∧ n ≤ 2)))) := by
  refine Good.of_body (T := [(0, _)]) Try.func60 rfl rfl rfl ?_
  intro K0 w0 hno
  by_cases h1 : 0 ≤ n
  · by_cases h2 : n ≤ 2
    · repeat' (first | refine CT.seqR ?_ | refine CT.region ?_ | refine CT.seq1 ?_ | refine CT.block ?_ | refine CT.condT rfl ?_ | refine CT.condF rfl ?_ | refine CT.condD rfl (fun _ => ?_) (fun _ => ?_) | refine CT.condN rfl (fun _ => ?_) (fun _ => ?_) | refine CT.cond rfl (fun _ => ?_) (fun _ => ?_) | refine CT.skip ?_ | refine CT.exit ?_ | refine CT.ret ?_ | refine CT.goto ?_ | refine CT.label ?_ | refine LT.nil ?_ | refine HT.nil1 ?_ | ((first | apply LT.cons1 | (apply LT.guard1; rfl; rfl; rfl; decide)); (first | exact arm60_1); decide) | refine LT.skip1 rfl rfl rfl (by decide) (by decide) ?_ | refine LT.skip2 rfl rfl (by decide) (by decide) ?_ | refine LT.partD rfl rfl (fun _ => ?_) (fun _ => ?_) | refine LT.partN rfl rfl (fun _ => ?_) (fun _ => ?_) | (refine LT.part1 rfl rfl (fun h => ?_) (fun h => ?_); (fail_if_success exact absurd h (by decide)); rotate_left; (fail_if_success exact absurd h (by decide)); rotate_left))
      refine ⟨by first | exact .inl rfl | exact .inr rfl, _, (.cons (.tmp 2 (A := .val _) rfl (fun _ h => by cases h)) .nil), ?_, rfl⟩
      simp [h1, h2, retsV]
    · repeat' (first | refine CT.seqR ?_ | refine CT.region ?_ | refine CT.seq1 ?_ | refine CT.block ?_ | refine CT.condT rfl ?_ | refine CT.condF rfl ?_ | refine CT.condD rfl (fun _ => ?_) (fun _ => ?_) | refine CT.condN rfl (fun _ => ?_) (fun _ => ?_) | refine CT.cond rfl (fun _ => ?_) (fun _ => ?_) | refine CT.skip ?_ | refine CT.exit ?_ | refine CT.ret ?_ | refine CT.goto ?_ | refine CT.label ?_ | refine LT.nil ?_ | refine HT.nil1 ?_ | ((first | apply LT.cons1 | (apply LT.guard1; rfl; rfl; rfl; decide)); (first | exact arm60_1); decide) | refine LT.skip1 rfl rfl rfl (by decide) (by decide) ?_ | refine LT.skip2 rfl rfl (by decide) (by decide) ?_ | refine LT.partD rfl rfl (fun _ => ?_) (fun _ => ?_) | refine LT.partN rfl rfl (fun _ => ?_) (fun _ => ?_) | (refine LT.part1 rfl rfl (fun h => ?_) (fun h => ?_); (fail_if_success exact absurd h (by decide)); rotate_left; (fail_if_success exact absurd h (by decide)); rotate_left))
      refine ⟨by first | exact .inl rfl | exact .inr rfl, _, (.cons (.tmp 2 (A := .val _) rfl (fun _ h => by cases h)) .nil), ?_, rfl⟩
      simp [h1, h2, retsV]
  · repeat' (first | refine CT.seqR ?_ | refine CT.region ?_ | refine CT.seq1 ?_ | refine CT.block ?_ | refine CT.condT rfl ?_ | refine CT.condF rfl ?_ | refine CT.condD rfl (fun _ => ?_) (fun _ => ?_) | refine CT.condN rfl (fun _ => ?_) (fun _ => ?_) | refine CT.cond rfl (fun _ => ?_) (fun _ => ?_) | refine CT.skip ?_ | refine CT.exit ?_ | refine CT.ret ?_ | refine CT.goto ?_ | refine CT.label ?_ | refine LT.nil ?_ | refine HT.nil1 ?_ | ((first | apply LT.cons1 | (apply LT.guard1; rfl; rfl; rfl; decide)); (first | exact arm60_1); decide) | refine LT.skip1 rfl rfl rfl (by decide) (by decide) ?_ | refine LT.skip2 rfl rfl (by decide) (by decide) ?_ | refine LT.partD rfl rfl (fun _ => ?_) (fun _ => ?_) | refine LT.partN rfl rfl (fun _ => ?_) (fun _ => ?_) | (refine LT.part1 rfl rfl (fun h => ?_) (fun h => ?_); (fail_if_success exact absurd h (by decide)); rotate_left; (fail_if_success exact absurd h (by decide)); rotate_left))
    refine ⟨by first | exact .inl rfl | exact .inr rfl, _, (.cons (.tmp 2 (A := .val _) rfl (fun _ h => by cases h)) .nil), ?_, rfl⟩
    simp [h1, retsV]
end Go.Proofs.Ytnklfbeiagkhiaa

/- merge.Build. -/
namespace Go.Proofs.Ytnklfbeiagkhiaa
set_option linter.unusedSimpArgs false
set_option linter.unusedVariables false
open Go Go.RowKit Go.Shelf
theorem Good.toSl {P : Program} {f : FuncId} {As : List AV} {r e k : Nat} {xs : Cells} (hg : Good P f As (.row r e k xs)) : Good P f As (.sl k xs) := by
  intro K w cargs hok hlen hrep
  refine (hg K w cargs hok hlen hrep).mono ?_
  rintro e' w' ⟨c, K', rfl, h1, h2, h3, h4, ρ, h5, _⟩
  exact ⟨c, K', rfl, h1, h2, h3, h4, ρ, h5.2, fun r e k xs h => (by rcases h with h | ⟨_, h, _⟩ <;> cases h), fun r e k xs r' e' k' xs' g h => (by rcases h with h | ⟨_, h, _⟩ <;> cases h)⟩
attribute [local irreducible] OpH OpT LT CT HT Good
theorem ents_take {rs : List Rte} {k : Nat} (h : k < rs.length) : (rs.take (k + 1)).map entR = (rs.take k).map entR ++ [entR rs[k]] := by
  rw [List.take_succ_eq_append_getElem h, List.map_append]; rfl
theorem g_eOfR (r : Rte) (h : Canon r.p) : Good Try.prog 53 [.val (.agg #[.int .u64 r.p.a.x, .int .u64 r.p.a.y, .int .i64 r.p.len]), .val (.int .i64 r.act)] (.val (.agg #[.int .u64 (entR r).w.v.x, .int .u64 (entR r).w.v.y, .int .u64 (entR r).w.m.x, .int .u64 (entR r).w.m.y, .int .i64 (entR r).len, .int .i64 (entR r).act])) := by
  have := g_eOfP r.p.a.x r.p.a.y r.p.len r.act
  rw [show pMake ⟨r.p.a.x, r.p.a.y⟩ r.p.len = r.p from cut_canon h] at this
  exact this
theorem arm17_1 {p : Prop} (h : p := by first | exact OpH.assign (v := .val _) rfl | exact OpH.assign (v := .sl _ _) rfl | exact OpH.assign (v := .row _ _ _ _) rfl | exact OpH.assign (v := .full _ _) rfl | exact OpH.assign (v := .ptr _ _) rfl | exact OpH.assign (v := .cptr _) rfl | exact OpH.assign (v := .cloB _ _) rfl | exact OpH.assign (v := .clo _ _) rfl | exact OpH.assign (v := .pr _) rfl | exact OpH.assign (v := .arow _) rfl | exact OpH.assign (v := .aptr _ _ _ _) rfl | exact OpH.assign (v := .asub _ _ _ _) rfl | exact OpH.assign (v := .tup _) rfl | exact OpH.move (v := .val _) rfl | exact OpH.move (v := .sl _ _) rfl | exact OpH.move (v := .row _ _ _ _) rfl | exact OpH.move (v := .full _ _) rfl | exact OpH.move (v := .ptr _ _) rfl | exact OpH.move (v := .cptr _) rfl | exact OpH.move (v := .cloB _ _) rfl | exact OpH.move (v := .clo _ _) rfl | exact OpH.move (v := .pr _) rfl | exact OpH.move (v := .arow _) rfl | exact OpH.move (v := .aptr _ _ _ _) rfl | exact OpH.move (v := .asub _ _ _ _) rfl | exact OpH.move (v := .tup _) rfl | exact OpH.un rfl un_not | exact OpH.un rfl (un_neg (by omega)) | exact OpH.bin rfl rfl (pb_neq_t (by first | omega | assumption)) | exact OpH.bin rfl rfl (pb_neq_f (by first | omega | assumption)) | exact OpH.bin rfl rfl (pb_neq) | exact OpH.lenM (t := 22) rfl (.sl _ _) (by kernel_rfl) | exact OpH.lenM (t := 22) rfl (.row _ _ _ _) (by kernel_rfl) | exact OpH.lenM (t := 22) rfl (.full _ _) (by kernel_rfl) | exact OpH.len (t := 22) rfl slP (by kernel_rfl) | exact OpH.lenNil (t := 22) rfl (by kernel_rfl) | exact OpH.bin rfl rfl (pb_lss_t (by omega)) | exact OpH.bin rfl rfl (pb_lss_f (by omega)) | exact OpH.bin rfl rfl (pb_lss) | exact OpH.indexS (t := 22) (k := 4) rfl slP rfl rfl (by kernel_rfl) (map_at bd) rfl | exact loadC4 (t := 108) rfl (by kernel_rfl) | exact loadB4 (t := 108) rfl rfl (by kernel_rfl) rfl | exact OpH.fieldC (s := 108) (f := 0) (off := 0) rfl (by kernel_rfl) rfl | exact OpH.fieldB (s := 108) (f := 0) (off := 0) rfl (by kernel_rfl) rfl | exact loadC3 (t := 98) rfl (by kernel_rfl) | exact loadB3 (t := 98) rfl rfl (by kernel_rfl) rfl | exact OpH.fieldC (s := 108) (f := 1) (off := 3) rfl (by kernel_rfl) rfl | exact OpH.fieldB (s := 108) (f := 1) (off := 3) rfl (by kernel_rfl) rfl | exact OpH.loadC1 (t := 3) rfl (by kernel_rfl) rfl | exact OpH.loadB1 (t := 3) rfl rfl (by kernel_rfl) rfl | exact OpH.callF Try.func53 rfl rfl rfl (g_eOf _ _ _ _) rfl | exact lit_29_1 rfl | exact OpH.bin rfl rfl (pb_inc (by omega)) | exact OpH.bin rfl rfl (pb_addN rfl (by omega)) | exact OpH.bin rfl rfl (pb_add (by omega)) | exact OpH.bin rfl rfl (pb_addw) | exact OpH.bin rfl rfl (pb_eql_t (by first | omega | assumption)) | exact OpH.bin rfl rfl (pb_eql_f (by first | omega | assumption)) | exact OpH.bin rfl rfl (pb_eql) | exact OpH.callFW Try.func62 rfl rfl rfl ((g_Merge _ (by assumption) (by first | omega | (simp; omega) | simp))) | exact OpH.callFW Try.func63 rfl rfl rfl ((g_eSort _ (by first | omega | (simp; omega) | simp)))) : p := h
set_option maxRecDepth 100000 in
set_option maxHeartbeats 2000000 in
theorem g_Build0 (rs : List Rte) (ht : TableR rs) (hl : rs.length ≤ 1000) : Good Try.prog 17 [.sl 4 (rs.map encR), .val (.int .i64 0)] (.row 35 36 6 ((buildE rs 0).map encE)) := by
  have gS := g_eSort (rs.map entR) (by rw [List.length_map]; omega)
  have gM := g_Mode 0
  rw [show decide ((0 : Int) ≤ 0 ∧ (0 : Int) ≤ 2) = true from rfl] at gM
  rw [show buildE rs 0 = sortE (rs.map entR) by unfold buildE; rw [if_pos rfl]]
  refine Good.of_body (T := [(0, _), (1, _)]) Try.func17 rfl rfl rfl ?_
  intro K0 w0 hno
  repeat' (first | refine CT.seqR ?_ | refine CT.region ?_ | refine CT.seq1 ?_ | refine CT.block ?_ | refine CT.condT rfl ?_ | refine CT.condF rfl ?_ | refine CT.condD rfl (fun _ => ?_) (fun _ => ?_) | refine CT.condN rfl (fun _ => ?_) (fun _ => ?_) | refine CT.cond rfl (fun _ => ?_) (fun _ => ?_) | refine CT.skip ?_ | refine CT.exit ?_ | refine CT.ret ?_ | refine CT.goto ?_ | refine CT.label ?_ | refine LT.nil ?_ | refine HT.nil1 ?_ | (refine LT.consT ?_; (first | refine T.alloc (e := 108) (z := .agg #[.int .u64 0, .int .u64 0, .int .i64 0, .int .i64 0]) (cs := [.val (.int .u64 0), .val (.int .u64 0), .val (.int .i64 0), .val (.int .i64 0)]) (by kernel_rfl) rfl (by decide) rfl rfl ?_ | refine T.store (t := 108) rfl rfl rfl (by kernel_rfl) (by kernel_rfl) (Nat.le_of_ble_eq_true (by kernel_rfl)) rfl rfl ?_ | refine T.appNil (t := 29) (e := 36) (k := 6) (bytes := 48) rfl rfl srP (by kernel_rfl) szP (by decide) rfl ?_ | refine T.app (t := 29) (e := 36) (k := 6) (bytes := 48) rfl rfl srP (by kernel_rfl) szP (by decide) rfl rfl ?_ | refine T.callRow Try.func62 rfl rfl rfl ((g_Merge _ (by assumption) (by first | omega | (simp; omega) | simp))) (by decide) rfl ?_ | refine T.callRow Try.func63 rfl rfl rfl ((g_eSort _ (by first | omega | (simp; omega) | simp))) (by decide) rfl ?_)) | (apply LT.cons1; (first | exact OpH.callF Try.func60 rfl rfl rfl gM rfl | exact arm17_1); decide))
  refine CT.loopX (fun k : Nat => (⟨[(1, .val (.int .i64 0)), (5, .row 5 36 6 (((rs.take k).map entR).map encE)), (15, .sl 4 (rs.map encR)), (16, .val (.int .i64 rs.length)), (17, .val (.int .i64 k))], [], []⟩ : St))
    (fun k => k ≤ rs.length) (fun k => rs.length - k) 0 ?_ (by omega) ?_
  · rw [List.take_zero, List.map_nil]
    (apply Sub.mk; (focus (repeat (first | exact .nil | refine .other (.keep rfl rfl) ?_ | refine .other (.aref rfl rfl rfl) ?_ | refine .other (.val rfl (by first | rfl | (congr 1; first | omega | assumption | (symm; assumption)) | (simp; omega))) ?_ | refine .other .dead ?_ | refine .other (.sl rfl (.row _ _ _ _) rfl) ?_ | refine .other (.sl rfl (.sl _ _) rfl) ?_ | refine .other (.sl rfl (.full _ _) rfl) ?_ | refine .other (.slNil rfl rfl) ?_ | refine .rowNil rfl rfl rfl ?_ | refine .row rfl (by first | rfl | assumption | (rw [← List.map_append]; first | done | rfl | congr 1)) rfl rfl ?_))); (focus (repeat (first | exact .nil | refine KeepB.same rfl rfl rfl ?_ | refine KeepB.sameA rfl rfl rfl ?_))); (focus (repeat (first | exact .nil | refine KeepA.cons rfl (by first | rfl | assumption | exact List.map_set | exact List.map_set.symm | (rw [← List.map_append]; first | done | rfl | congr 1) | (congr 1; first | omega | assumption)) ?_))))
  rintro k hk
  by_cases hlt : k < rs.length
  · have hkl : ((rs.take k).map entR).length = k := by rw [List.length_map, List.length_take]; omega
    have gO := g_eOfR rs[k] (ht.canon _ (List.getElem_mem hlt))
    obtain ⟨e, he⟩ : ∃ e, entR rs[k] = e := ⟨_, rfl⟩
    rw [he] at gO
    repeat' (first | refine CT.seqR ?_ | refine CT.region ?_ | refine CT.seq1 ?_ | refine CT.block ?_ | refine CT.condT rfl ?_ | refine CT.condF rfl ?_ | refine CT.condD rfl (fun _ => ?_) (fun _ => ?_) | refine CT.condN rfl (fun _ => ?_) (fun _ => ?_) | refine CT.cond rfl (fun _ => ?_) (fun _ => ?_) | refine CT.skip ?_ | refine CT.exit ?_ | refine CT.ret ?_ | refine CT.goto ?_ | refine CT.label ?_ | refine LT.nil ?_ | refine HT.nil1 ?_ | (refine LT.consT ?_; (first | refine T.alloc (e := 108) (z := .agg #[.int .u64 0, .int .u64 0, .int .i64 0, .int .i64 0]) (cs := [.val (.int .u64 0), .val (.int .u64 0), .val (.int .i64 0), .val (.int .i64 0)]) (by kernel_rfl) rfl (by decide) rfl rfl ?_ | refine T.store (t := 108) rfl rfl rfl (by kernel_rfl) (by kernel_rfl) (Nat.le_of_ble_eq_true (by kernel_rfl)) rfl rfl ?_ | refine T.appNil (t := 29) (e := 36) (k := 6) (bytes := 48) rfl rfl srP (by kernel_rfl) szP (by decide) rfl ?_ | refine T.app (t := 29) (e := 36) (k := 6) (bytes := 48) rfl rfl srP (by kernel_rfl) szP (by decide) rfl rfl ?_ | refine T.callRow Try.func62 rfl rfl rfl ((g_Merge _ (by assumption) (by first | omega | (simp; omega) | simp))) (by decide) rfl ?_ | refine T.callRow Try.func63 rfl rfl rfl ((g_eSort _ (by first | omega | (simp; omega) | simp))) (by decide) rfl ?_)) | (apply LT.cons1; (first | exact OpH.callF Try.func53 rfl rfl rfl gO rfl | exact arm17_1); decide))
    refine ⟨k + 1, by omega, by omega, ?_⟩
    rw [ents_take hlt, he]
    (apply Sub.mk; (focus (repeat (first | exact .nil | refine .other (.keep rfl rfl) ?_ | refine .other (.aref rfl rfl rfl) ?_ | refine .other (.val rfl (by first | rfl | (congr 1; first | omega | assumption | (symm; assumption)) | (simp; omega))) ?_ | refine .other .dead ?_ | refine .other (.sl rfl (.row _ _ _ _) rfl) ?_ | refine .other (.sl rfl (.sl _ _) rfl) ?_ | refine .other (.sl rfl (.full _ _) rfl) ?_ | refine .other (.slNil rfl rfl) ?_ | refine .rowNil rfl rfl rfl ?_ | refine .row rfl (by first | rfl | assumption | (rw [← List.map_append]; first | done | rfl | congr 1)) rfl rfl ?_))); (focus (repeat (first | exact .nil | refine KeepB.same rfl rfl rfl ?_ | refine KeepB.sameA rfl rfl rfl ?_))); (focus (repeat (first | exact .nil | refine KeepA.cons rfl (by first | rfl | assumption | exact List.map_set | exact List.map_set.symm | (rw [← List.map_append]; first | done | rfl | congr 1) | (congr 1; first | omega | assumption)) ?_))))
  · obtain rfl : k = rs.length := by omega
    rw [List.take_length]
    repeat' (first | (refine LT.consT ?_; refine T.callRow Try.func63 rfl rfl rfl gS (by decide) rfl ?_) | refine CT.seqR ?_ | refine CT.region ?_ | refine CT.seq1 ?_ | refine CT.block ?_ | refine CT.condT rfl ?_ | refine CT.condF rfl ?_ | refine CT.condD rfl (fun _ => ?_) (fun _ => ?_) | refine CT.condN rfl (fun _ => ?_) (fun _ => ?_) | refine CT.cond rfl (fun _ => ?_) (fun _ => ?_) | refine CT.skip ?_ | refine CT.exit ?_ | refine CT.ret ?_ | refine CT.goto ?_ | refine CT.label ?_ | refine LT.nil ?_ | refine HT.nil1 ?_ | (refine LT.consT ?_; (first | refine T.alloc (e := 108) (z := .agg #[.int .u64 0, .int .u64 0, .int .i64 0, .int .i64 0]) (cs := [.val (.int .u64 0), .val (.int .u64 0), .val (.int .i64 0), .val (.int .i64 0)]) (by kernel_rfl) rfl (by decide) rfl rfl ?_ | refine T.store (t := 108) rfl rfl rfl (by kernel_rfl) (by kernel_rfl) (Nat.le_of_ble_eq_true (by kernel_rfl)) rfl rfl ?_ | refine T.appNil (t := 29) (e := 36) (k := 6) (bytes := 48) rfl rfl srP (by kernel_rfl) szP (by decide) rfl ?_ | refine T.app (t := 29) (e := 36) (k := 6) (bytes := 48) rfl rfl srP (by kernel_rfl) szP (by decide) rfl rfl ?_ | refine T.callRow Try.func62 rfl rfl rfl ((g_Merge _ (by assumption) (by first | omega | (simp; omega) | simp))) (by decide) rfl ?_ | refine T.callRow Try.func63 rfl rfl rfl ((g_eSort _ (by first | omega | (simp; omega) | simp))) (by decide) rfl ?_)) | (apply LT.cons1; (first | exact arm17_1); decide))
    refine ⟨by first | exact .inl rfl | exact .inr rfl, _, (.cons (.tmp 4 (A := .row _ _ _ _) rfl (fun _ h => by cases h)) .nil), ?_, rfl⟩
    rfl
set_option maxRecDepth 100000 in
set_option maxHeartbeats 2000000 in
theorem g_Build1 (rs : List Rte) (ht : TableR rs) (hl : rs.length ≤ 1000) : Good Try.prog 17 [.sl 4 (rs.map encR), .val (.int .i64 1)] (.row 35 36 6 ((buildE rs 1).map encE)) := by
  have hkl := keepR_length ht
  have hkc := keepR_canon ht
  have gK := g_Keep rs ht (by omega)
  have gM := g_Mode 1
  rw [show decide ((0 : Int) ≤ 1 ∧ (1 : Int) ≤ 2) = true from rfl] at gM
  rw [show buildE rs 1 = sortE ((keepR rs).map entR) by unfold buildE; rw [if_neg (by decide), if_pos rfl]]
  generalize keepR rs = ks at hkl hkc gK ⊢
  have gS := g_eSort (ks.map entR) (by rw [List.length_map]; omega)
  refine Good.of_body (T := [(0, _), (1, _)]) Try.func17 rfl rfl rfl ?_
  intro K0 w0 hno
  repeat' (first | (refine LT.consT ?_; refine T.callRow Try.func61 rfl rfl rfl gK (by decide) rfl ?_) | refine CT.seqR ?_ | refine CT.region ?_ | refine CT.seq1 ?_ | refine CT.block ?_ | refine CT.condT rfl ?_ | refine CT.condF rfl ?_ | refine CT.condD rfl (fun _ => ?_) (fun _ => ?_) | refine CT.condN rfl (fun _ => ?_) (fun _ => ?_) | refine CT.cond rfl (fun _ => ?_) (fun _ => ?_) | refine CT.skip ?_ | refine CT.exit ?_ | refine CT.ret ?_ | refine CT.goto ?_ | refine CT.label ?_ | refine LT.nil ?_ | refine HT.nil1 ?_ | (refine LT.consT ?_; (first | refine T.alloc (e := 108) (z := .agg #[.int .u64 0, .int .u64 0, .int .i64 0, .int .i64 0]) (cs := [.val (.int .u64 0), .val (.int .u64 0), .val (.int .i64 0), .val (.int .i64 0)]) (by kernel_rfl) rfl (by decide) rfl rfl ?_ | refine T.store (t := 108) rfl rfl rfl (by kernel_rfl) (by kernel_rfl) (Nat.le_of_ble_eq_true (by kernel_rfl)) rfl rfl ?_ | refine T.appNil (t := 29) (e := 36) (k := 6) (bytes := 48) rfl rfl srP (by kernel_rfl) szP (by decide) rfl ?_ | refine T.app (t := 29) (e := 36) (k := 6) (bytes := 48) rfl rfl srP (by kernel_rfl) szP (by decide) rfl rfl ?_ | refine T.callRow Try.func62 rfl rfl rfl ((g_Merge _ (by assumption) (by first | omega | (simp; omega) | simp))) (by decide) rfl ?_ | refine T.callRow Try.func63 rfl rfl rfl ((g_eSort _ (by first | omega | (simp; omega) | simp))) (by decide) rfl ?_)) | (apply LT.cons1; (first | exact OpH.callF Try.func60 rfl rfl rfl gM rfl | exact arm17_1); decide))
  refine CT.loopX (fun k : Nat => (⟨[(1, .val (.int .i64 1)), (5, .row 5 36 6 (((ks.take k).map entR).map encE)), (15, .row 15 108 4 (ks.map encR)), (16, .val (.int .i64 ks.length)), (17, .val (.int .i64 k))], [], []⟩ : St))
    (fun k => k ≤ ks.length) (fun k => ks.length - k) 0 ?_ (by omega) ?_
  · rw [List.take_zero, List.map_nil]
    (apply Sub.mk; (focus (repeat (first | exact .nil | refine .other (.keep rfl rfl) ?_ | refine .other (.aref rfl rfl rfl) ?_ | refine .other (.val rfl (by first | rfl | (congr 1; first | omega | assumption | (symm; assumption)) | (simp; omega))) ?_ | refine .other .dead ?_ | refine .other (.sl rfl (.row _ _ _ _) rfl) ?_ | refine .other (.sl rfl (.sl _ _) rfl) ?_ | refine .other (.sl rfl (.full _ _) rfl) ?_ | refine .other (.slNil rfl rfl) ?_ | refine .rowNil rfl rfl rfl ?_ | refine .row rfl (by first | rfl | assumption | (rw [← List.map_append]; first | done | rfl | congr 1)) rfl rfl ?_))); (focus (repeat (first | exact .nil | refine KeepB.same rfl rfl rfl ?_ | refine KeepB.sameA rfl rfl rfl ?_))); (focus (repeat (first | exact .nil | refine KeepA.cons rfl (by first | rfl | assumption | exact List.map_set | exact List.map_set.symm | (rw [← List.map_append]; first | done | rfl | congr 1) | (congr 1; first | omega | assumption)) ?_))))
  rintro k hk
  by_cases hlt : k < ks.length
  · have hkl2 : ((ks.take k).map entR).length = k := by rw [List.length_map, List.length_take]; omega
    have gO := g_eOfR ks[k] (hkc _ (List.getElem_mem hlt))
    obtain ⟨e, he⟩ : ∃ e, entR ks[k] = e := ⟨_, rfl⟩
    rw [he] at gO
    repeat' (first | refine CT.seqR ?_ | refine CT.region ?_ | refine CT.seq1 ?_ | refine CT.block ?_ | refine CT.condT rfl ?_ | refine CT.condF rfl ?_ | refine CT.condD rfl (fun _ => ?_) (fun _ => ?_) | refine CT.condN rfl (fun _ => ?_) (fun _ => ?_) | refine CT.cond rfl (fun _ => ?_) (fun _ => ?_) | refine CT.skip ?_ | refine CT.exit ?_ | refine CT.ret ?_ | refine CT.goto ?_ | refine CT.label ?_ | refine LT.nil ?_ | refine HT.nil1 ?_ | (refine LT.consT ?_; (first | refine T.alloc (e := 108) (z := .agg #[.int .u64 0, .int .u64 0, .int .i64 0, .int .i64 0]) (cs := [.val (.int .u64 0), .val (.int .u64 0), .val (.int .i64 0), .val (.int .i64 0)]) (by kernel_rfl) rfl (by decide) rfl rfl ?_ | refine T.store (t := 108) rfl rfl rfl (by kernel_rfl) (by kernel_rfl) (Nat.le_of_ble_eq_true (by kernel_rfl)) rfl rfl ?_ | refine T.appNil (t := 29) (e := 36) (k := 6) (bytes := 48) rfl rfl srP (by kernel_rfl) szP (by decide) rfl ?_ | refine T.app (t := 29) (e := 36) (k := 6) (bytes := 48) rfl rfl srP (by kernel_rfl) szP (by decide) rfl rfl ?_ | refine T.callRow Try.func62 rfl rfl rfl ((g_Merge _ (by assumption) (by first | omega | (simp; omega) | simp))) (by decide) rfl ?_ | refine T.callRow Try.func63 rfl rfl rfl ((g_eSort _ (by first | omega | (simp; omega) | simp))) (by decide) rfl ?_)) | (apply LT.cons1; (first | exact OpH.callF Try.func53 rfl rfl rfl gO rfl | exact arm17_1); decide))
    refine ⟨k + 1, by omega, by omega, ?_⟩
    rw [ents_take hlt, he]
    (apply Sub.mk; (focus (repeat (first | exact .nil | refine .other (.keep rfl rfl) ?_ | refine .other (.aref rfl rfl rfl) ?_ | refine .other (.val rfl (by first | rfl | (congr 1; first | omega | assumption | (symm; assumption)) | (simp; omega))) ?_ | refine .other .dead ?_ | refine .other (.sl rfl (.row _ _ _ _) rfl) ?_ | refine .other (.sl rfl (.sl _ _) rfl) ?_ | refine .other (.sl rfl (.full _ _) rfl) ?_ | refine .other (.slNil rfl rfl) ?_ | refine .rowNil rfl rfl rfl ?_ | refine .row rfl (by first | rfl | assumption | (rw [← List.map_append]; first | done | rfl | congr 1)) rfl rfl ?_))); (focus (repeat (first | exact .nil | refine KeepB.same rfl rfl rfl ?_ | refine KeepB.sameA rfl rfl rfl ?_))); (focus (repeat (first | exact .nil | refine KeepA.cons rfl (by first | rfl | assumption | exact List.map_set | exact List.map_set.symm | (rw [← List.map_append]; first | done | rfl | congr 1) | (congr 1; first | omega | assumption)) ?_))))
  · obtain rfl : k = ks.length := by omega
    rw [List.take_length]
    repeat' (first | (refine LT.consT ?_; refine T.callRow Try.func63 rfl rfl rfl gS (by decide) rfl ?_) | refine CT.seqR ?_ | refine CT.region ?_ | refine CT.seq1 ?_ | refine CT.block ?_ | refine CT.condT rfl ?_ | refine CT.condF rfl ?_ | refine CT.condD rfl (fun _ => ?_) (fun _ => ?_) | refine CT.condN rfl (fun _ => ?_) (fun _ => ?_) | refine CT.cond rfl (fun _ => ?_) (fun _ => ?_) | refine CT.skip ?_ | refine CT.exit ?_ | refine CT.ret ?_ | refine CT.goto ?_ | refine CT.label ?_ | refine LT.nil ?_ | refine HT.nil1 ?_ | (refine LT.consT ?_; (first | refine T.alloc (e := 108) (z := .agg #[.int .u64 0, .int .u64 0, .int .i64 0, .int .i64 0]) (cs := [.val (.int .u64 0), .val (.int .u64 0), .val (.int .i64 0), .val (.int .i64 0)]) (by kernel_rfl) rfl (by decide) rfl rfl ?_ | refine T.store (t := 108) rfl rfl rfl (by kernel_rfl) (by kernel_rfl) (Nat.le_of_ble_eq_true (by kernel_rfl)) rfl rfl ?_ | refine T.appNil (t := 29) (e := 36) (k := 6) (bytes := 48) rfl rfl srP (by kernel_rfl) szP (by decide) rfl ?_ | refine T.app (t := 29) (e := 36) (k := 6) (bytes := 48) rfl rfl srP (by kernel_rfl) szP (by decide) rfl rfl ?_ | refine T.callRow Try.func62 rfl rfl rfl ((g_Merge _ (by assumption) (by first | omega | (simp; omega) | simp))) (by decide) rfl ?_ | refine T.callRow Try.func63 rfl rfl rfl ((g_eSort _ (by first | omega | (simp; omega) | simp))) (by decide) rfl ?_)) | (apply LT.cons1; (first | exact arm17_1); decide))
    refine ⟨by first | exact .inl rfl | exact .inr rfl, _, (.cons (.tmp 4 (A := .row _ _ _ _) rfl (fun _ h => by cases h)) .nil), ?_, rfl⟩
    rfl
set_option maxRecDepth 100000 in
set_option maxHeartbeats 2000000 in
theorem g_Build2 (rs : List Rte) (ht : TableR rs) (hl : rs.length ≤ 1000) : Good Try.prog 17 [.sl 4 (rs.map encR), .val (.int .i64 2)] (.row 33 36 6 ((buildE rs 2).map encE)) := by
  have hkl := keepR_length ht
  have hkc := keepR_canon ht
  have gK := g_Keep rs ht (by omega)
  have gM := g_Mode 2
  rw [show decide ((0 : Int) ≤ 2 ∧ (2 : Int) ≤ 2) = true from rfl] at gM
  rw [show buildE rs 2 = mergeE ((keepR rs).map entR) by unfold buildE; rw [if_neg (by decide), if_neg (by decide)]]
  generalize keepR rs = ks at hkl hkc gK ⊢
  have gS := g_Merge (ks.map entR) (ents_ok hkc) (by rw [List.length_map]; omega)
  refine Good.of_body (T := [(0, _), (1, _)]) Try.func17 rfl rfl rfl ?_
  intro K0 w0 hno
  repeat' (first | (refine LT.consT ?_; refine T.callRow Try.func61 rfl rfl rfl gK (by decide) rfl ?_) | refine CT.seqR ?_ | refine CT.region ?_ | refine CT.seq1 ?_ | refine CT.block ?_ | refine CT.condT rfl ?_ | refine CT.condF rfl ?_ | refine CT.condD rfl (fun _ => ?_) (fun _ => ?_) | refine CT.condN rfl (fun _ => ?_) (fun _ => ?_) | refine CT.cond rfl (fun _ => ?_) (fun _ => ?_) | refine CT.skip ?_ | refine CT.exit ?_ | refine CT.ret ?_ | refine CT.goto ?_ | refine CT.label ?_ | refine LT.nil ?_ | refine HT.nil1 ?_ | (refine LT.consT ?_; (first | refine T.alloc (e := 108) (z := .agg #[.int .u64 0, .int .u64 0, .int .i64 0, .int .i64 0]) (cs := [.val (.int .u64 0), .val (.int .u64 0), .val (.int .i64 0), .val (.int .i64 0)]) (by kernel_rfl) rfl (by decide) rfl rfl ?_ | refine T.store (t := 108) rfl rfl rfl (by kernel_rfl) (by kernel_rfl) (Nat.le_of_ble_eq_true (by kernel_rfl)) rfl rfl ?_ | refine T.appNil (t := 29) (e := 36) (k := 6) (bytes := 48) rfl rfl srP (by kernel_rfl) szP (by decide) rfl ?_ | refine T.app (t := 29) (e := 36) (k := 6) (bytes := 48) rfl rfl srP (by kernel_rfl) szP (by decide) rfl rfl ?_ | refine T.callRow Try.func62 rfl rfl rfl ((g_Merge _ (by assumption) (by first | omega | (simp; omega) | simp))) (by decide) rfl ?_ | refine T.callRow Try.func63 rfl rfl rfl ((g_eSort _ (by first | omega | (simp; omega) | simp))) (by decide) rfl ?_)) | (apply LT.cons1; (first | exact OpH.callF Try.func60 rfl rfl rfl gM rfl | exact arm17_1); decide))
  refine CT.loopX (fun k : Nat => (⟨[(1, .val (.int .i64 2)), (5, .row 5 36 6 (((ks.take k).map entR).map encE)), (15, .row 15 108 4 (ks.map encR)), (16, .val (.int .i64 ks.length)), (17, .val (.int .i64 k))], [], []⟩ : St))
    (fun k => k ≤ ks.length) (fun k => ks.length - k) 0 ?_ (by omega) ?_
  · rw [List.take_zero, List.map_nil]
    (apply Sub.mk; (focus (repeat (first | exact .nil | refine .other (.keep rfl rfl) ?_ | refine .other (.aref rfl rfl rfl) ?_ | refine .other (.val rfl (by first | rfl | (congr 1; first | omega | assumption | (symm; assumption)) | (simp; omega))) ?_ | refine .other .dead ?_ | refine .other (.sl rfl (.row _ _ _ _) rfl) ?_ | refine .other (.sl rfl (.sl _ _) rfl) ?_ | refine .other (.sl rfl (.full _ _) rfl) ?_ | refine .other (.slNil rfl rfl) ?_ | refine .rowNil rfl rfl rfl ?_ | refine .row rfl (by first | rfl | assumption | (rw [← List.map_append]; first | done | rfl | congr 1)) rfl rfl ?_))); (focus (repeat (first | exact .nil | refine KeepB.same rfl rfl rfl ?_ | refine KeepB.sameA rfl rfl rfl ?_))); (focus (repeat (first | exact .nil | refine KeepA.cons rfl (by first | rfl | assumption | exact List.map_set | exact List.map_set.symm | (rw [← List.map_append]; first | done | rfl | congr 1) | (congr 1; first | omega | assumption)) ?_))))
  rintro k hk
  by_cases hlt : k < ks.length
  · have hkl2 : ((ks.take k).map entR).length = k := by rw [List.length_map, List.length_take]; omega
    have gO := g_eOfR ks[k] (hkc _ (List.getElem_mem hlt))
    obtain ⟨e, he⟩ : ∃ e, entR ks[k] = e := ⟨_, rfl⟩
    rw [he] at gO
    repeat' (first | refine CT.seqR ?_ | refine CT.region ?_ | refine CT.seq1 ?_ | refine CT.block ?_ | refine CT.condT rfl ?_ | refine CT.condF rfl ?_ | refine CT.condD rfl (fun _ => ?_) (fun _ => ?_) | refine CT.condN rfl (fun _ => ?_) (fun _ => ?_) | refine CT.cond rfl (fun _ => ?_) (fun _ => ?_) | refine CT.skip ?_ | refine CT.exit ?_ | refine CT.ret ?_ | refine CT.goto ?_ | refine CT.label ?_ | refine LT.nil ?_ | refine HT.nil1 ?_ | (refine LT.consT ?_; (first | refine T.alloc (e := 108) (z := .agg #[.int .u64 0, .int .u64 0, .int .i64 0, .int .i64 0]) (cs := [.val (.int .u64 0), .val (.int .u64 0), .val (.int .i64 0), .val (.int .i64 0)]) (by kernel_rfl) rfl (by decide) rfl rfl ?_ | refine T.store (t := 108) rfl rfl rfl (by kernel_rfl) (by kernel_rfl) (Nat.le_of_ble_eq_true (by kernel_rfl)) rfl rfl ?_ | refine T.appNil (t := 29) (e := 36) (k := 6) (bytes := 48) rfl rfl srP (by kernel_rfl) szP (by decide) rfl ?_ | refine T.app (t := 29) (e := 36) (k := 6) (bytes := 48) rfl rfl srP (by kernel_rfl) szP (by decide) rfl rfl ?_ | refine T.callRow Try.func62 rfl rfl rfl ((g_Merge _ (by assumption) (by first | omega | (simp; omega) | simp))) (by decide) rfl ?_ | refine T.callRow Try.func63 rfl rfl rfl ((g_eSort _ (by first | omega | (simp; omega) | simp))) (by decide) rfl ?_)) | (apply LT.cons1; (first | exact OpH.callF Try.func53 rfl rfl rfl gO rfl | exact arm17_1); decide))
    refine ⟨k + 1, by omega, by omega, ?_⟩
    rw [ents_take hlt, he]
    (apply Sub.mk; (focus (repeat (first | exact .nil | refine .other (.keep rfl rfl) ?_ | refine .other (.aref rfl rfl rfl) ?_ | refine .other (.val rfl (by first | rfl | (congr 1; first | omega | assumption | (symm; assumption)) | (simp; omega))) ?_ | refine .other .dead ?_ | refine .other (.sl rfl (.row _ _ _ _) rfl) ?_ | refine .other (.sl rfl (.sl _ _) rfl) ?_ | refine .other (.sl rfl (.full _ _) rfl) ?_ | refine .other (.slNil rfl rfl) ?_ | refine .rowNil rfl rfl rfl ?_ | refine .row rfl (by first | rfl | assumption | (rw [← List.map_append]; first | done | rfl | congr 1)) rfl rfl ?_))); (focus (repeat (first | exact .nil | refine KeepB.same rfl rfl rfl ?_ | refine KeepB.sameA rfl rfl rfl ?_))); (focus (repeat (first | exact .nil | refine KeepA.cons rfl (by first | rfl | assumption | exact List.map_set | exact List.map_set.symm | (rw [← List.map_append]; first | done | rfl | congr 1) | (congr 1; first | omega | assumption)) ?_))))
  · obtain rfl : k = ks.length := by omega
    rw [List.take_length]
    repeat' (first | (refine LT.consT ?_; refine T.callRow Try.func62 rfl rfl rfl gS (by decide) rfl ?_) | refine CT.seqR ?_ | refine CT.region ?_ | refine CT.seq1 ?_ | refine CT.block ?_ | refine CT.condT rfl ?_ | refine CT.condF rfl ?_ | refine CT.condD rfl (fun _ => ?_) (fun _ => ?_) | refine CT.condN rfl (fun _ => ?_) (fun _ => ?_) | refine CT.cond rfl (fun _ => ?_) (fun _ => ?_) | refine CT.skip ?_ | refine CT.exit ?_ | refine CT.ret ?_ | refine CT.goto ?_ | refine CT.label ?_ | refine LT.nil ?_ | refine HT.nil1 ?_ | (refine LT.consT ?_; (first | refine T.alloc (e := 108) (z := .agg #[.int .u64 0, .int .u64 0, .int .i64 0, .int .i64 0]) (cs := [.val (.int .u64 0), .val (.int .u64 0), .val (.int .i64 0), .val (.int .i64 0)]) (by kernel_rfl) rfl (by decide) rfl rfl ?_ | refine T.store (t := 108) rfl rfl rfl (by kernel_rfl) (by kernel_rfl) (Nat.le_of_ble_eq_true (by kernel_rfl)) rfl rfl ?_ | refine T.appNil (t := 29) (e := 36) (k := 6) (bytes := 48) rfl rfl srP (by kernel_rfl) szP (by decide) rfl ?_ | refine T.app (t := 29) (e := 36) (k := 6) (bytes := 48) rfl rfl srP (by kernel_rfl) szP (by decide) rfl rfl ?_ | refine T.callRow Try.func62 rfl rfl rfl ((g_Merge _ (by assumption) (by first | omega | (simp; omega) | simp))) (by decide) rfl ?_ | refine T.callRow Try.func63 rfl rfl rfl ((g_eSort _ (by first | omega | (simp; omega) | simp))) (by decide) rfl ?_)) | (apply LT.cons1; (first | exact arm17_1); decide))
    refine ⟨by first | exact .inl rfl | exact .inr rfl, _, (.cons (.tmp 4 (A := .row _ _ _ _) rfl (fun _ h => by cases h)) .nil), ?_, rfl⟩
    rfl
set_option maxRecDepth 100000 in
set_option maxHeartbeats 2000000 in
theorem g_BuildN (rs : List Rte) (mode : Int) (h : ¬ (0 ≤ mode ∧ mode ≤ 2)) : Good Try.prog 17 [.sl 4 (rs.map encR), .val (.int .i64 mode)] (.sl 6 (([] : List Ent).map encE)) := by
  have gM := g_Mode mode
  rw [decide_eq_false h] at gM
  refine Good.of_body (T := [(0, _), (1, _)]) Try.func17 rfl rfl rfl ?_
  intro K0 w0 hno
  repeat' (first | (refine CT.sub (S' := ⟨[(4, .sl 6 (([] : List Ent).map encE))], [], []⟩) ?_ (CT.ret ?_)) | refine CT.seqR ?_ | refine CT.region ?_ | refine CT.seq1 ?_ | refine CT.block ?_ | refine CT.condT rfl ?_ | refine CT.condF rfl ?_ | refine CT.condD rfl (fun _ => ?_) (fun _ => ?_) | refine CT.condN rfl (fun _ => ?_) (fun _ => ?_) | refine CT.cond rfl (fun _ => ?_) (fun _ => ?_) | refine CT.skip ?_ | refine CT.exit ?_ | refine CT.ret ?_ | refine CT.goto ?_ | refine CT.label ?_ | refine LT.nil ?_ | refine HT.nil1 ?_ | (refine LT.consT ?_; (first | refine T.alloc (e := 108) (z := .agg #[.int .u64 0, .int .u64 0, .int .i64 0, .int .i64 0]) (cs := [.val (.int .u64 0), .val (.int .u64 0), .val (.int .i64 0), .val (.int .i64 0)]) (by kernel_rfl) rfl (by decide) rfl rfl ?_ | refine T.store (t := 108) rfl rfl rfl (by kernel_rfl) (by kernel_rfl) (Nat.le_of_ble_eq_true (by kernel_rfl)) rfl rfl ?_ | refine T.appNil (t := 29) (e := 36) (k := 6) (bytes := 48) rfl rfl srP (by kernel_rfl) szP (by decide) rfl ?_ | refine T.app (t := 29) (e := 36) (k := 6) (bytes := 48) rfl rfl srP (by kernel_rfl) szP (by decide) rfl rfl ?_ | refine T.callRow Try.func62 rfl rfl rfl ((g_Merge _ (by assumption) (by first | omega | (simp; omega) | simp))) (by decide) rfl ?_ | refine T.callRow Try.func63 rfl rfl rfl ((g_eSort _ (by first | omega | (simp; omega) | simp))) (by decide) rfl ?_)) | (apply LT.cons1; (first | exact OpH.callF Try.func60 rfl rfl rfl gM rfl | exact arm17_1); decide))
  · (apply Sub.mk; (focus (repeat (first | exact .nil | refine .other (.keep rfl rfl) ?_ | refine .other (.aref rfl rfl rfl) ?_ | refine .other (.val rfl (by first | rfl | (congr 1; first | omega | assumption | (symm; assumption)) | (simp; omega))) ?_ | refine .other .dead ?_ | refine .other (.sl rfl (.row _ _ _ _) rfl) ?_ | refine .other (.sl rfl (.sl _ _) rfl) ?_ | refine .other (.sl rfl (.full _ _) rfl) ?_ | refine .other (.slNil rfl rfl) ?_ | refine .rowNil rfl rfl rfl ?_ | refine .row rfl (by first | rfl | assumption | (rw [← List.map_append]; first | done | rfl | congr 1)) rfl rfl ?_))); (focus (repeat (first | exact .nil | refine KeepB.same rfl rfl rfl ?_ | refine KeepB.sameA rfl rfl rfl ?_))); (focus (repeat (first | exact .nil | refine KeepA.cons rfl (by first | rfl | assumption | exact List.map_set | exact List.map_set.symm | (rw [← List.map_append]; first | done | rfl | congr 1) | (congr 1; first | omega | assumption)) ?_))))
  · refine ⟨by first | exact .inl rfl | exact .inr rfl, _, (.cons (.tmp 4 (A := .sl _ _) rfl (fun _ h => by cases h)) .nil), ?_, rfl⟩
    rfl
end Go.Proofs.Ytnklfbeiagkhiaa
