/- Abstract contracts and plain facts for the laws of law 11. -/
import Derived.Test.YtjmnnkhdadoehaaGreatYDiffK
import Derived.Test.YtjmnnkhdadoehaaGreatYWalkM
import Derived.Test.YtjmnnkhdadoehaaGreatYOpen
import Derived.Test.YtjmnnkhdadoehaaGreatYLawTells
import Derived.Test.YtjmnnkhdadoehaaGreatYPlnR
namespace Go.Proofs.YtjmnnkhdadoehaaGreat
set_option linter.unusedSimpArgs false
set_option linter.unusedVariables false
open Go Go.RowKit Go.Shelf
/-! ### How many steps there are of a kind -/
end Go.Proofs.YtjmnnkhdadoehaaGreat

/- What is told behind steps, in plain Lean. -/
namespace Go.Proofs.YtjmnnkhdadoehaaGreat
set_option linter.unusedSimpArgs false
set_option linter.unusedVariables false
open Go
theorem alike_word {x y : Ent} (h : eAlike x y = true) : x.w = y.w ∧ x.len = y.len := by
  unfold eAlike same at h
  simpa using h
theorem SimpleR.noAlike {l : List Ent} (h : SimpleR l) : NoAlike l := by
  refine h.imp fun {x y} hxy => ?_
  cases hq : eAlike x y with
  | false => rfl
  | true =>
    obtain ⟨h1, h2⟩ := alike_word hq
    exact absurd ⟨h2.symm, by rw [h1]; exact rMeet_self _⟩ hxy
theorem sorted_len {l : List Ent} {i j : Nat} (hj : j < (sortE l).length) (hij : i < j) : (sortE l)[j].len ≤ ((sortE l)[i]'(by omega)).len := by
  have h := (List.pairwise_iff_getElem.1 (sortE_pairwise l)) i j (by omega) hj hij
  unfold eLe at h
  simp only [decide_eq_true_eq] at h
  rw [eCmp_lex] at h
  unfold lexKey at h
  rcases h with h | ⟨h, _⟩ <;> omega
theorem adds_tell {a b l : List Ent} {ad : A2} {j : Nat} (ua : Uniq a ad) (ub : Uniq b ad) (h : Adds a ((sortE b).take j) l) : tell l ad = tell a ad ∨ tell l ad = tell b ad := by
  by_cases hp : ∃ x ∈ (sortE b).take j, wMatch x.w ad = true
  · obtain ⟨x, hx, hxm⟩ := hp
    have hpb : ∀ z ∈ (sortE b).take j, z ∈ b := fun z hz => sortE_mem.1 (List.mem_of_mem_take hz)
    obtain ⟨Y, hY, hYm, hYb, hYt⟩ := tell_has (hpb x hx) hxm
    have hYp : Y ∈ (sortE b).take j := by
      obtain ⟨m, hm, rfl⟩ := List.mem_iff_getElem.1 hx
      obtain ⟨i, hi, e⟩ := List.mem_iff_getElem.1 (sortE_mem.2 hY)
      simp only [List.length_take] at hm
      by_cases hij : i < j
      · exact List.mem_iff_getElem.2 ⟨i, by simp; omega, by rw [List.getElem_take, e]⟩
      · have h1 := sorted_len (l := b) hi (show m < i by omega)
        rw [e] at h1
        have hx2 := hx
        rw [List.getElem_take] at hxm hx2
        have h2 := hYb _ (sortE_mem.1 (List.getElem_mem (show m < (sortE b).length by omega))) hxm
        have := ub.eq _ (sortE_mem.1 (List.getElem_mem (show m < (sortE b).length by omega))) Y hY hxm hYm (by omega)
        rw [← this]; exact hx2
    obtain ⟨e, he, hem, heb, het⟩ := tell_has ((h.mem Y).2 (.inl hYp)) hYm
    have h1 := heb Y ((h.mem Y).2 (.inl hYp)) hYm
    rcases (h.mem e).1 he with hep | ⟨hea, hno⟩
    · have h2 := hYb e (hpb e hep) hem
      have := ub.eq e (hpb e hep) Y hY hem hYm (by omega)
      subst this
      exact .inr (by rw [het, hYt])
    · obtain ⟨X, hX, hXm, hXb, hXt⟩ := tell_has hea hem
      have h2 := hXb e hea hem
      rcases alike_cases ((sortE b).take j) X with hc | ⟨z, hz, hc⟩
      · have h3 := heb X ((h.mem X).2 (.inr ⟨hX, hc⟩)) hXm
        have := ua.eq e hea X hX hem hXm (by omega)
        subst this
        exact .inl (by rw [het, hXt])
      · obtain ⟨q1, q2⟩ := alike_word hc
        have h3 := hYb z (hpb z hz) (by rw [← q1]; exact hXm)
        have := ua.eq e hea X hX hem hXm (by omega)
        subst this
        rw [hno z hz] at hc; cases hc
  · refine .inl (tell_eq (fun e hem => ?_) ua)
    rw [h.mem]
    constructor
    · exact fun he => .inr ⟨he, fun x hx => by
        cases hq : eAlike e x with
        | false => rfl
        | true => exact absurd ⟨x, hx, by rw [← (alike_word hq).1]; exact hem⟩ hp⟩
    · rintro (he | ⟨he, _⟩)
      · exact absurd ⟨e, he, hem⟩ hp
      · exact he
theorem drops_tell {a b l : List Ent} {ad : A2} {j : Nat} (ua : Uniq a ad) (ub : Uniq b ad) (h : Drops a b ((sortE a).reverse.take j) l) : tell l ad = tell a ad ∨ tell l ad = tell b ad := by
  rcases tell_is l ad with ⟨h1, h2⟩ | ⟨e, he, hem, heb, het⟩
  · rcases tell_is b ad with ⟨k1, _⟩ | ⟨f, hf, k1, _⟩
    · exact .inr (by rw [h1, k1])
    · rw [h2 f ((h.mem f).2 (.inl hf))] at k1; cases k1
  · rcases (h.mem e).1 he with hb | ⟨hea, hno, hq⟩
    · refine .inr ?_
      rw [het]
      exact (tell_best ub hb hem fun f hf hfm => heb f ((h.mem f).2 (.inl hf)) hfm).symm
    · obtain ⟨X, hX, hXm, hXb, hXt⟩ := tell_has hea hem
      have h2 := hXb e hea hem
      have key : e.len = X.len → tell l ad = tell a ad := fun hl => by
        have := ua.eq e hea X hX hem hXm hl
        subst this
        rw [het, hXt]
      rcases alike_cases b X with hc | ⟨z, hz, hc⟩
      · by_cases hXq : X ∈ (sortE a).reverse.take j
        · refine .inl (key ?_)
          obtain ⟨m, hm, rfl⟩ := List.mem_iff_getElem.1 hXq
          obtain ⟨i, hi, rfl⟩ := List.mem_iff_getElem.1 (List.mem_reverse.2 (sortE_mem.2 hea))
          simp only [List.length_take, List.length_reverse] at hm hi
          have hij : ¬ i < j := fun hij => hq (List.mem_iff_getElem.2 ⟨i, by simp; omega, by rw [List.getElem_take]⟩)
          rw [List.getElem_take] at *
          rw [List.getElem_reverse, List.getElem_reverse] at *
          have := sorted_len (l := a) (i := (sortE a).length - 1 - i) (j := (sortE a).length - 1 - m) (by omega) (by omega)
          omega
        · exact .inl (key (by have := heb X ((h.mem X).2 (.inr ⟨hX, hc, hXq⟩)) hXm; omega))
      · obtain ⟨q1, q2⟩ := alike_word hc
        have h3 := heb z ((h.mem z).2 (.inl hz)) (by rw [← q1]; exact hXm)
        exact .inl (key (by omega))
theorem flat_take {α β : Type} (f : α → List β) (hf : ∀ x, (f x).length ≤ 1) : ∀ (l : List α) (k : Nat), ∃ j, j ≤ l.length ∧ (l.flatMap f).take k = (l.take j).flatMap f
  | [], k => ⟨0, Nat.le_refl _, by simp⟩
  | x :: l, 0 => ⟨0, Nat.zero_le _, by simp⟩
  | x :: l, k + 1 => by
    have h1 := hf x
    match hx : f x with
    | [] =>
      obtain ⟨j, hj, e⟩ := flat_take f hf l (k + 1)
      exact ⟨j + 1, by simp; omega, by rw [List.flatMap_cons, hx, List.nil_append, e, List.take_succ_cons, List.flatMap_cons, hx]; rfl⟩
    | [s] =>
      obtain ⟨j, hj, e⟩ := flat_take f hf l k
      exact ⟨j + 1, by simp; omega, by rw [List.flatMap_cons, hx, List.take_succ_cons, List.flatMap_cons, hx, List.singleton_append, List.take_succ_cons, e]; rfl⟩
    | _ :: _ :: _ => rw [hx] at h1; simp at h1
end Go.Proofs.YtjmnnkhdadoehaaGreat

/- Steps made writes: what slots tell behind any of them; in plain Lean. -/
namespace Go.Proofs.YtjmnnkhdadoehaaGreat
set_option linter.unusedSimpArgs false
set_option linter.unusedVariables false
open Go
/-! ### Rows with the same entries -/
theorem bestTo_head {e : Ent} {xs : List Ent} {a : A2} (hm : wMatch e.w a = true) (hb : ∀ f ∈ xs, wMatch f.w a = true → f.len ≤ e.len) : ∀ k, k ≤ xs.length → bestTo (e :: xs) a (k + 1) = (0, true)
  | 0, _ => by
    unfold bestTo
    unfold bestTo
    simp [nth, hm]
  | k + 1, hk => by
    have ih := bestTo_head hm hb k (by omega)
    unfold bestTo
    rw [ih]
    have hn : nth (e :: xs) (k + 1) = xs[k] := by rw [nth_at _ (by simp; omega)]; rfl
    have h0 : nth (e :: xs) 0 = e := rfl
    rw [hn]
    dsimp only
    rw [h0]
    have := hb xs[k] (List.getElem_mem (by omega))
    split
    · rename_i hc
      simp at hc
      have := this hc.1
      omega
    · rfl
theorem tell_head {e : Ent} {xs : List Ent} {a : A2} (hm : wMatch e.w a = true) (hb : ∀ f ∈ xs, wMatch f.w a = true → f.len ≤ e.len) : tell (e :: xs) a = e.act := by
  unfold tell best
  rw [show (e :: xs).length = xs.length + 1 from rfl, bestTo_head hm hb _ (Nat.le_refl _)]
  rfl
theorem Adds.perm {a p l l2 : List Ent} (h : Adds a p l) (hp : l2.Perm l) : Adds a p l2 := ⟨h.no.perm hp, fun e => hp.mem_iff.trans (h.mem e)⟩
theorem Drops.perm {a b q l l2 : List Ent} (h : Drops a b q l) (hp : l2.Perm l) : Drops a b q l2 := ⟨h.no.perm hp, fun e => hp.mem_iff.trans (h.mem e)⟩
theorem told_mid2 {old new : List Ent} {ad : A2} (h1 : SimpleR old) (h2 : SimpleR new) (m1 : ∀ x ∈ old, wMatch x.w ad = rMatch x.w ad) (m2 : ∀ x ∈ new, wMatch x.w ad = rMatch x.w ad) (k : Nat) {l2 : List Ent} (hp : l2.Perm (doSteps ((stepsOf old new).take k) old)) :
    (tell l2 ad = tell old ad ∨ tell l2 ad = tell new ad) ∧ NoAlike l2 := by
  have ha := h1.noAlike
  have hb := h2.noAlike
  have ua := h1.uniq m1
  have ub := h2.uniq m2
  have hsb := hb.perm (sortE_perm new)
  unfold stepsOf at hp
  rw [once_self ha, once_self hb, List.take_append] at hp
  by_cases hk : k ≤ ((sortE new).flatMap (addStep old)).length
  · obtain ⟨j, hj, e⟩ := flat_take (addStep old) (addStep_length old) (sortE new) k
    rw [show k - ((sortE new).flatMap (addStep old)).length = 0 by omega, List.take_zero, List.append_nil, e] at hp
    have hA := (adds_all ha hsb j hj).perm hp
    exact ⟨adds_tell ua ub hA, hA.no⟩
  · obtain ⟨j, hj, e⟩ := flat_take (dropStep new) (dropStep_length new) (sortE old).reverse (k - ((sortE new).flatMap (addStep old)).length)
    rw [List.take_of_length_le (by omega), e, doSteps_append] at hp
    have hA := adds_all ha hsb (sortE new).length (Nat.le_refl _)
    rw [List.take_of_length_le (Nat.le_refl _)] at hA
    have hD := (drops_all ha hA (sortE_perm new) (fun x hx => sortE_mem.1 (List.mem_reverse.1 hx)) j hj).perm hp
    exact ⟨drops_tell ua ub hD, hD.no⟩
theorem told_is {old new : List Ent} {ad : A2} (h1 : SimpleR old) (h2 : SimpleR new) (m1 : ∀ x ∈ old, wMatch x.w ad = rMatch x.w ad) (m2 : ∀ x ∈ new, wMatch x.w ad = rMatch x.w ad) (k : Nat) {l2 : List Ent} {t : Int} (hm : ∀ e, e ∈ l2 ↔ e ∈ doSteps ((stepsOf old new).take k) old) (ht : TellIs l2 ad t) :
    t = tell old ad ∨ t = tell new ad := by
  generalize hl : doSteps ((stepsOf old new).take k) old = l at hm
  have key : ∀ {l3 : List Ent}, l3.Perm l → tell l3 ad = tell old ad ∨ tell l3 ad = tell new ad := fun {l3} hp => (told_mid2 h1 h2 m1 m2 k (l2 := l3) (by rw [hl]; exact hp)).1
  rcases ht with ⟨t0, hno⟩ | ⟨e, he, hem, heb, het⟩
  · have : tell l ad = 0 := by
      rcases tell_is l ad with ⟨h, _⟩ | ⟨f, hf, hfm, _⟩
      · exact h
      · rw [hno f ((hm f).2 hf)] at hfm; cases hfm
    have := key (List.Perm.refl l)
    rw [t0]
    omega
  · have hel := (hm e).1 he
    have hp : (e :: l.erase e).Perm l := (List.perm_cons_erase hel).symm
    have h := key hp
    rw [tell_head hem (fun f hf hfm => heb f ((hm f).2 (List.mem_of_mem_erase hf)) hfm)] at h
    rw [het]
    exact h
theorem tellS_is {l : List Slt} {a : A2} (ho : ordered (entsS l) = true) (hok : ∀ x ∈ entsS l, x.w.ok) (ha : a.ok) : TellIs (entsS l) a (tellS l a) := by
  rcases idxS_cases l (hitS a) with ⟨i1, i2⟩ | ⟨k, hk, i1, i2, i3⟩
  · refine .inl ⟨by unfold tellS; rw [i1]; rfl, fun e he => ?_⟩
    obtain ⟨m, hm, hv, rfl⟩ := mem_entsS_iff.1 he
    have := i2 m hm
    unfold hitS at this
    rw [hv, Bool.true_and] at this
    exact this
  · unfold hitS at i2
    rw [Bool.and_eq_true] at i2
    have m1 := mem_entsS hk i2.1
    refine .inr ⟨_, m1, i2.2, fun f hf hfm => ?_, by unfold tellS; rw [i1, if_neg (by omega), Int.toNat_natCast]⟩
    obtain ⟨m, hm, hvm, rfl⟩ := mem_entsS_iff.1 hf
    rcases Nat.lt_trichotomy m k with c | c | c
    · have := i3 m c
      unfold hitS at this
      rw [hvm, hfm] at this; cases this
    · rw [c]; exact Int.le_refl _
    · have hk2 := ((ordS_iff l).1 ho).get c hm i2.1 hvm
      unfold eAbove at hk2
      have h4 : wMeet (nth l m).e.w (nth l k).e.w = true := by
        rw [meet_ref (hok _ hf) (hok _ m1)]
        have h5 := i2.2
        rw [match_ref (hok _ hf) ha] at hfm
        rw [match_ref (hok _ m1) ha] at h5
        exact meet_both hfm h5
      rw [h4, Bool.and_true, decide_eq_false_iff_not] at hk2
      omega
/-! ### Writes of a step -/
def eachF (x : Ent) (to : Slt) (h : Ent → Bool) (s : Slt) : Slt := if (s.valid && eAlike s.e x && h s.e) = true then to else s
theorem apply_eachL {l : List Slt} {x : Ent} {to : Slt} {h : Ent → Bool} (hto : to = zeroS ∨ (to.valid = true ∧ eRight to.e = true)) : applyW l (eachT l x to h l.length) = l.map (eachF x to h) := by
  have hlen := applyW_len (eachT l x to h l.length) l
  apply List.ext_getElem
  · rw [List.length_map]; exact hlen
  · intro i h1 h2
    have := apply_each (l := l) (x := x) (h := h) hto l.length (Nat.le_refl _) i
    rw [nth_at _ h1] at this
    have hi : i < l.length := by omega
    rw [this, List.getElem_map]
    unfold eachF
    have hc : eachC l x h i = (l[i].valid && eAlike l[i].e x && h l[i].e) := by unfold eachC; rw [nth_at _ hi]
    rw [hc]
    by_cases c : (l[i].valid && eAlike l[i].e x && h l[i].e) = true
    · rw [if_pos ⟨hi, c⟩, if_pos c]
    · rw [if_neg (fun q => c q.2), if_neg c, nth_at _ hi]
theorem eachF_t {x : Ent} {to : Slt} {h : Ent → Bool} {s : Slt} (hc : (s.valid && eAlike s.e x && h s.e) = true) : eachF x to h s = to := if_pos hc
theorem eachF_f {x : Ent} {to : Slt} {h : Ent → Bool} {s : Slt} (hc : (s.valid && eAlike s.e x && h s.e) = false) : eachF x to h s = s := if_neg (by rw [hc]; decide)
theorem ents_cons (s : Slt) (l : List Slt) : entsS (s :: l) = (if s.valid = true then [s.e] else []) ++ entsS l := by
  unfold entsS
  by_cases c : s.valid = true
  · rw [if_pos c, List.filter_cons_of_pos c]; rfl
  · rw [if_neg c, List.filter_cons_of_neg c]; rfl
theorem ents_set (x : Ent) : ∀ l : List Slt, entsS (l.map (eachF x ⟨true, x⟩ fun y => decide (y.act ≠ x.act))) = (entsS l).map fun y => if eAlike y x = true then x else y
  | [] => rfl
  | s :: l => by
    have ih := ents_set x l
    rw [List.map_cons, ents_cons, ents_cons, ih, List.map_append]
    congr 1
    by_cases v : s.valid = true
    · by_cases a : eAlike s.e x = true
      · by_cases c : s.e.act = x.act
        · rw [eachF_f (by simp [v, a, c]), if_pos v, List.map_cons, List.map_nil, if_pos a, alike_act a c]
        · rw [eachF_t (by simp [v, a, c]), if_pos rfl, if_pos v, List.map_cons, List.map_nil, if_pos a]
      · rw [eachF_f (by simp [a]), if_pos v, List.map_cons, List.map_nil, if_neg a]
    · rw [eachF_f (by simp [v]), if_neg v]
      rfl
theorem ents_drop (x : Ent) : ∀ l : List Slt, entsS (l.map (eachF x zeroS fun _ => true)) = (entsS l).filter fun y => !eAlike y x
  | [] => rfl
  | s :: l => by
    have ih := ents_drop x l
    rw [List.map_cons, ents_cons, ents_cons, ih, List.filter_append]
    congr 1
    by_cases v : s.valid = true
    · by_cases a : eAlike s.e x = true
      · rw [eachF_t (by simp [v, a]), if_neg (by decide), if_pos v, List.filter_cons_of_neg (by rw [a]; decide)]
        rfl
      · rw [eachF_f (by simp [a]), if_pos v, List.filter_cons_of_pos (by simp [a])]
        rfl
    · rw [eachF_f (by simp [v]), if_neg v]
      rfl
theorem kept_ents {order : Int} {s t : List Slt} (hk : keptPl order s = true) (h : (∃ g : Ent → Ent, (∀ e, (g e).w = e.w ∧ (g e).len = e.len) ∧ entsS t = (entsS s).map g) ∨ ∃ p : Ent → Bool, entsS t = (entsS s).filter p) : keptPl order t = true := by
  unfold keptPl at hk ⊢
  by_cases o0 : order = 0
  · rw [if_pos o0] at hk ⊢
    unfold keptP at hk ⊢
    rw [decide_eq_true_eq] at hk ⊢
    rcases h with ⟨g, hg, e⟩ | ⟨p, e⟩
    · rw [e, List.pairwise_map]
      exact hk.imp fun {a b} hab => by rw [(hg a).2, (hg b).2]; exact hab
    · rw [e]
      exact hk.filter _
  · rw [if_neg o0] at hk ⊢
    by_cases o1 : order = 1
    · rw [if_pos o1] at hk ⊢
      rw [ordered_pw] at hk ⊢
      rcases h with ⟨g, hg, e⟩ | ⟨p, e⟩
      · rw [e, List.pairwise_map]
        exact hk.imp fun {a b} hab => by
          unfold eAbove at hab ⊢
          rw [(hg a).2, (hg b).2, (hg a).1, (hg b).1]
          exact hab
      · rw [e]
        exact hk.filter _
    · rw [if_neg o1] at hk; cases hk
theorem each_few {l : List Slt} {x : Ent} {to : Slt} {h : Ent → Bool} (hn : NoAlike (entsS l)) : ∀ k, k ≤ l.length → (eachT l x to h k).length ≤ 1 ∧ ((eachT l x to h k).length = 1 → ∃ i, i < k ∧ eachC l x h i = true)
  | 0, _ => by
    refine ⟨by simp [eachT], fun h => by simp [eachT] at h⟩
  | k + 1, hk => by
    obtain ⟨h1, h2⟩ := each_few hn k (by omega) (x := x) (to := to) (h := h)
    have hst : eachT l x to h (k + 1) = eachT l x to h k ++ (if (nth l k).valid = true ∧ eAlike (nth l k).e x = true ∧ h (nth l k).e = true then [⟨k, to⟩] else []) := rfl
    rw [hst, List.length_append]
    by_cases c : eachC l x h k = true
    · rw [if_pos (eachC_iff.2 c)]
      have h0 : ¬ (eachT l x to h k).length = 1 := fun q => by
        obtain ⟨i, hi, hc⟩ := h2 q
        obtain ⟨a1, a2, _⟩ := eachC_iff.2 hc
        obtain ⟨b1, b2, _⟩ := eachC_iff.2 c
        have hpw : l.Pairwise fun s t => s.valid = true → t.valid = true → eAlike s.e t.e = false := by
          have := hn
          unfold NoAlike entsS at this
          rw [List.pairwise_map, List.pairwise_filter] at this
          exact this
        have := List.pairwise_iff_getElem.1 hpw i k (by omega) (by omega) hi
        rw [nth_at _ (by omega)] at a1 a2 b1 b2
        have h3 := alike_trans a2 (by rw [alike_comm]; exact b2)
        rw [this a1 b1] at h3
        cases h3
      rw [List.length_singleton]
      exact ⟨by omega, fun _ => ⟨k, by omega, c⟩⟩
    · rw [if_neg (fun q => c (eachC_iff.1 q)), List.length_nil]
      exact ⟨by omega, fun q => by
        obtain ⟨i, hi, hc⟩ := h2 (by omega)
        exact ⟨i, by omega, hc⟩⟩
/-! ### All steps -/
def allPl (order : Int) : List Slt → List Stp → List Wrt × Int
  | _, [] => ([], 0)
  | s, st :: ss => if (onePl order s st).2 = 0 then (if (allPl order (applyW s (onePl order s st).1) ss).2 = 0 then ((onePl order s st).1 ++ (allPl order (applyW s (onePl order s st).1) ss).1, 0) else ([], (allPl order (applyW s (onePl order s st).1) ss).2)) else ([], (onePl order s st).2)
structure StepGood (order : Int) (s : List Slt) (st : Stp) (W : List Wrt) : Prop where
  pre : ∀ m, m < W.length → keptPl order (applyW s (W.take m)) = true ∧ ∀ e, e ∈ entsS (applyW s (W.take m)) ↔ e ∈ entsS s
  kept : keptPl order (applyW s W) = true
  perm : (entsS (applyW s W)).Perm (doStep st (entsS s))
theorem step_good {order : Int} (ho : ordPl order = true) {s : List Slt} {st : Stp} (hk : keptPl order s = true) (hr : ∀ e ∈ entsS s, eRight e = true) (hp : ∀ e ∈ entsS s, order = 1 → IsPfx e) (hx : order = 1 → IsPfx st.e) (hxr : eRight st.e = true) (hn : NoAlike (entsS s)) (hkind : st.kind = 0 ∨ st.kind = 1 ∨ st.kind = 2) :
    onePl order s st = ([], 3) ∨ ∃ W, onePl order s st = (W, 0) ∧ StepGood order s st W := by
  obtain ⟨kd, x⟩ := st
  dsimp only at hx hxr hkind
  rcases hkind with rfl | rfl | rfl
  · rw [onePl_ins]
    obtain ⟨h1, h2⟩ := ins_step' ho hk hr hp hx hxr
    by_cases hf : (entsS s).length = s.length
    · exact .inl (h1 hf)
    · obtain ⟨W, e1, _, e3⟩ := h2 hf
      refine .inr ⟨W, e1, e3.pre, e3.kept, ?_⟩
      rw [do_add]
      exact e3.perm.trans (List.perm_append_singleton x _).symm
  · refine .inr ⟨_, onePl_set ho hxr, ?_⟩
    have e1 := apply_eachL (l := s) (x := x) (to := ⟨true, x⟩) (h := fun y => decide (y.act ≠ x.act)) (.inr ⟨rfl, hxr⟩)
    have hfew := (each_few hn s.length (Nat.le_refl _) (x := x) (to := ⟨true, x⟩) (h := fun y => decide (y.act ≠ x.act))).1
    refine ⟨fun m hm => ?_, ?_, ?_⟩
    · obtain rfl : m = 0 := by omega
      exact ⟨hk, fun e => Iff.rfl⟩
    · rw [e1]
      refine kept_ents hk (.inl ⟨_, fun e => ?_, ents_set x s⟩)
      by_cases c : eAlike e x = true
      · rw [if_pos c]
        obtain ⟨q1, q2⟩ := alike_w c
        exact ⟨q1.symm, q2.symm⟩
      · rw [if_neg c]; exact ⟨rfl, rfl⟩
    · rw [e1, ents_set, do_set]
  · refine .inr ⟨_, onePl_drop ho hxr, ?_⟩
    have e1 := apply_eachL (l := s) (x := x) (to := zeroS) (h := fun _ => true) (.inl rfl)
    have hfew := (each_few hn s.length (Nat.le_refl _) (x := x) (to := zeroS) (h := fun _ => true)).1
    refine ⟨fun m hm => ?_, ?_, ?_⟩
    · obtain rfl : m = 0 := by omega
      exact ⟨hk, fun e => Iff.rfl⟩
    · rw [e1]
      exact kept_ents hk (.inr ⟨_, ents_drop x s⟩)
    · rw [e1, ents_drop, do_del]
end Go.Proofs.YtjmnnkhdadoehaaGreat

/- All steps made writes, in slots of an order; in plain Lean. -/
namespace Go.Proofs.YtjmnnkhdadoehaaGreat
set_option linter.unusedSimpArgs false
set_option linter.unusedVariables false
open Go
theorem doStep_mem {e : Ent} {st : Stp} {l : List Ent} (h : e ∈ doStep st l) : e ∈ l ∨ e = st.e := by
  unfold doStep at h
  rcases List.mem_append.1 h with h | h
  · obtain ⟨y, hy, h⟩ := List.mem_flatMap.1 h
    unfold doOne at h
    split at h
    · exact .inr (List.mem_singleton.1 h)
    · split at h
      · cases h
      · rw [List.mem_singleton.1 h]; exact .inl hy
  · split at h
    · exact .inr (List.mem_singleton.1 h)
    · cases h
theorem doSteps_mem {e : Ent} : ∀ (ss : List Stp) (l : List Ent), e ∈ doSteps ss l → e ∈ l ∨ ∃ st ∈ ss, e = st.e
  | [], l, h => .inl h
  | st :: ss, l, h => by
    rcases doSteps_mem ss (doStep st l) h with h | ⟨st', h1, h2⟩
    · rcases doStep_mem h with h | h
      · exact .inl h
      · exact .inr ⟨st, List.mem_cons_self, h⟩
    · exact .inr ⟨st', List.mem_cons_of_mem _ h1, h2⟩
theorem doStep_perm (st : Stp) {l l' : List Ent} (h : l.Perm l') : (doStep st l).Perm (doStep st l') := by
  unfold doStep
  exact (h.flatMap_right _).append_right _
theorem run_all {order : Int} {x : List Ent} {total : List Stp} (ho : ordPl order = true) (hNo : ∀ i, NoAlike (doSteps (total.take i) x))
    (hT : ∀ st ∈ total, (st.kind = 0 ∨ st.kind = 1 ∨ st.kind = 2) ∧ eRight st.e = true ∧ (order = 1 → IsPfx st.e)) (hX : ∀ e ∈ x, eRight e = true ∧ (order = 1 → IsPfx e)) :
    ∀ (ss p : List Stp) (s : List Slt), total = p ++ ss → keptPl order s = true → (entsS s).Perm (doSteps p x) →
      allPl order s ss = ([], 3) ∨ ∃ W, allPl order s ss = (W, 0) ∧ (∀ m, m ≤ W.length → keptPl order (applyW s (W.take m)) = true ∧ ∃ i, ∀ e, e ∈ entsS (applyW s (W.take m)) ↔ e ∈ doSteps (total.take i) x) ∧ (entsS (applyW s W)).Perm (doSteps total x)
  | [], p, s, ht, hk, hp => by
    rw [List.append_nil] at ht
    refine .inr ⟨[], rfl, fun m hm => ⟨?_, p.length, fun e => ?_⟩, ?_⟩
    · obtain rfl : m = 0 := by simpa using hm
      exact hk
    · obtain rfl : m = 0 := by simpa using hm
      rw [ht, List.take_length]
      exact hp.mem_iff
    · rw [ht]; exact hp
  | st :: ss, p, s, ht, hk, hp => by
    have htp : total.take p.length = p := by rw [ht]; simp
    have hE : ∀ e ∈ entsS s, eRight e = true ∧ (order = 1 → IsPfx e) := fun e he => by
      rcases doSteps_mem p x (hp.mem_iff.1 he) with h | ⟨st', h1, h2⟩
      · exact hX e h
      · rw [h2]; exact (hT st' (by rw [ht]; exact List.mem_append_left _ h1)).2
    have hn : NoAlike (entsS s) := by
      have := hNo p.length
      rw [htp] at this
      exact this.perm hp
    obtain ⟨k1, k2, k3⟩ := hT st (by rw [ht]; exact List.mem_append_right _ List.mem_cons_self)
    rcases step_good ho hk (fun e h => (hE e h).1) (fun e h => (hE e h).2) k3 k2 hn k1 with e1 | ⟨W1, e1, hg⟩
    · left
      show (if (onePl order s st).2 = 0 then _ else _) = _
      rw [e1, if_neg (by decide)]
    · have hun : allPl order s (st :: ss) = (if (allPl order (applyW s W1) ss).2 = 0 then (W1 ++ (allPl order (applyW s W1) ss).1, 0) else ([], (allPl order (applyW s W1) ss).2)) := by
        show (if (onePl order s st).2 = 0 then _ else _) = _
        rw [e1, if_pos rfl]
      have hp1 : (entsS (applyW s W1)).Perm (doSteps (p ++ [st]) x) := by
        rw [doSteps_append]
        exact hg.perm.trans (doStep_perm st hp)
      rw [hun]
      rcases run_all ho hNo hT hX ss (p ++ [st]) (applyW s W1) (by rw [ht, List.append_assoc]; rfl) hg.kept hp1 with e2 | ⟨W2, e2, i1, i2⟩
      · left
        rw [e2, if_neg (by decide)]
      · right
        rw [e2, if_pos rfl]
        refine ⟨W1 ++ W2, rfl, fun m hm => ?_, by rw [applyW_app]; exact i2⟩
        rw [List.length_append] at hm
        by_cases c : m < W1.length
        · rw [List.take_append_of_le_length (by omega)]
          obtain ⟨g1, g2⟩ := hg.pre m c
          refine ⟨g1, p.length, fun e => ?_⟩
          rw [g2, htp]
          exact hp.mem_iff
        · rw [List.take_append, List.take_of_length_le (by omega), applyW_app]
          exact i1 (m - W1.length) (by omega)
theorem plan_tells {order : Int} {x y : List Ent} {a : A2} {s : List Slt} (ho : ordPl order = true) (hx : SimpleR x) (hy : SimpleR y) (ha : a.ok) (hokx : ∀ e ∈ x, e.w.ok) (hoky : ∀ e ∈ y, e.w.ok) (hX : ∀ e ∈ x, eRight e = true ∧ (order = 1 → IsPfx e)) (hY : ∀ e ∈ y, eRight e = true ∧ (order = 1 → IsPfx e))
    (hk : keptPl order s = true) (hp : (entsS s).Perm x) :
    allPl order s (stepsOf x y) = ([], 3) ∨ ∃ W, allPl order s (stepsOf x y) = (W, 0) ∧ (∀ m, m ≤ W.length → keptPl order (applyW s (W.take m)) = true ∧ (tellS (applyW s (W.take m)) a = tell x a ∨ tellS (applyW s (W.take m)) a = tell y a)) ∧ (entsS (applyW s W)).Perm y ∧ tellS (applyW s W) a = tell y a := by
  have m1 : ∀ e ∈ x, wMatch e.w a = rMatch e.w a := fun e h => match_ref (hokx e h) ha
  have m2 : ∀ e ∈ y, wMatch e.w a = rMatch e.w a := fun e h => match_ref (hoky e h) ha
  have hNo : ∀ i, NoAlike (doSteps ((stepsOf x y).take i) x) := fun i => (told_mid2 hx hy m1 m2 i (List.Perm.refl _)).2
  have hst : ∀ st ∈ stepsOf x y, (st.e ∈ x ∨ st.e ∈ y) ∧ (st.kind = 0 ∨ st.kind = 1 ∨ st.kind = 2) := fun st h => by
    have hk := steps_kind h
    refine ⟨?_, by omega⟩
    unfold stepsOf at h
    rcases List.mem_append.1 h with h | h
    · obtain ⟨e, he, h⟩ := List.mem_flatMap.1 h
      have hey := once_sub (sortE_mem.1 he)
      unfold addStep at h
      split at h
      · rw [List.mem_singleton.1 h]; exact .inr hey
      · split at h
        · cases h
        · rw [List.mem_singleton.1 h]; exact .inr hey
    · obtain ⟨e, he, h⟩ := List.mem_flatMap.1 h
      have hex := once_sub (sortE_mem.1 (List.mem_reverse.1 he))
      unfold dropStep at h
      split at h
      · rw [List.mem_singleton.1 h]; exact .inl hex
      · cases h
  have hT : ∀ st ∈ stepsOf x y, (st.kind = 0 ∨ st.kind = 1 ∨ st.kind = 2) ∧ eRight st.e = true ∧ (order = 1 → IsPfx st.e) := fun st h => by
    obtain ⟨h1, h2⟩ := hst st h
    refine ⟨h2, ?_⟩
    rcases h1 with h1 | h1
    · exact hX _ h1
    · exact hY _ h1
  have hokd : ∀ i e, e ∈ doSteps ((stepsOf x y).take i) x → e.w.ok := fun i e h => by
    rcases doSteps_mem _ _ h with h | ⟨st, h1, h2⟩
    · exact hokx e h
    · rw [h2]
      rcases (hst st (List.mem_of_mem_take h1)).1 with h | h
      · exact hokx _ h
      · exact hoky _ h
  rcases run_all ho hNo hT hX (stepsOf x y) [] s rfl hk hp with e | ⟨W, e, h1, h2⟩
  · exact .inl e
  · have hend : (entsS (applyW s W)).Perm y := by
      have := steps_perm x y
      rw [once_self hx.noAlike, once_self hy.noAlike] at this
      exact h2.trans this
    have hkW := (h1 W.length (Nat.le_refl _)).1
    rw [List.take_length] at hkW
    refine .inr ⟨W, e, fun m hm => ?_, hend, ?_⟩
    · obtain ⟨g1, i, g2⟩ := h1 m hm
      refine ⟨g1, told_is hx hy m1 m2 i g2 (tellS_is (keptPl_ordered g1) (fun e he => hokd i e ((g2 e).1 he)) ha)⟩
    · exact tellS_of (keptPl_ordered hkW) (fun e => hend.mem_iff) hoky ha (simple_noClash hy hoky ha)
end Go.Proofs.YtjmnnkhdadoehaaGreat

/- plan.All. -/
namespace Go.Proofs.YtjmnnkhdadoehaaGreat
set_option linter.unusedSimpArgs false
set_option linter.unusedVariables false
open Go Go.RowKit Go.Shelf
attribute [local irreducible] OpH OpT LT CT HT Good
theorem arm13_1 {p : Prop} (h : p := by first | exact fm0 | exact fm53 | exact OpH.lenM (t := 41) rfl (.sl _ _) (by kernel_rfl) | exact OpH.lenM (t := 41) rfl (.row _ _ _ _) (by kernel_rfl) | exact OpH.lenM (t := 41) rfl (.full _ _) (by kernel_rfl) | exact OpH.len (t := 41) rfl slP (by kernel_rfl) | exact OpH.lenNil (t := 41) rfl (by kernel_rfl) | exact fm6 | exact OpH.indexS (t := 41) (k := 7) rfl slP rfl rfl (by kernel_rfl) (map_at bd) rfl | exact loadC7 (t := 82) rfl (by kernel_rfl) | exact loadB7 (t := 82) rfl rfl (by kernel_rfl) rfl | exact fm15 | exact fm7 | exact fm4 | fail) : p := h
theorem stpAllW_1 {G G' : Prop} (h' : G') (h : Hidd G' → G := by (first | (intro h; (first | (refine LT.consT ?_; (first | refine T.alloc (e := 82) (z := .agg #[.int .i64 0, .int .u64 0, .int .u64 0, .int .u64 0, .int .u64 0, .int .i64 0, .int .i64 0]) (cs := [.val (.int .i64 0), .val (.int .u64 0), .val (.int .u64 0), .val (.int .u64 0), .val (.int .u64 0), .val (.int .i64 0), .val (.int .i64 0)]) (by kernel_rfl) rfl (by decide) rfl rfl ?_ | refine T.store (t := 82) rfl rfl rfl (by kernel_rfl) (by kernel_rfl) (Nat.le_of_ble_eq_true (by kernel_rfl)) rfl rfl ?_ | refine T.appNil (t := 37) (e := 50) (k := 8) (bytes := 64) rfl rfl srP (by kernel_rfl) szP (by decide) rfl ?_ | refine T.app (t := 37) (e := 50) (k := 8) (bytes := 64) rfl rfl srP (by kernel_rfl) szP (by decide) rfl rfl ?_)) | (apply LT.cons1; exact arm13_1; (try decide))); exact h.1) | fail)) : G := h ⟨h'⟩
set_option maxRecDepth 100000 in
set_option maxHeartbeats 4000000 in
theorem g_All (order : Int) (s0 : List Slt) (ss : List Stp) (hl : s0.length ≤ 1000) (hs : ss.length ≤ 1000) : Good Tryz.prog 13 [.val (.int .i64 order), .sl 7 (s0.map encS), .sl 7 (ss.map encD)] (.tup [.sl 8 ((allPl order s0 ss).1.map encX), .val (.int .i64 (allPl order s0 ss).2)]) := by
  obtain ⟨R, hR⟩ : ∃ R, allPl order s0 ss = R := ⟨_, rfl⟩
  rw [hR]
  refine Good.of_body (T := [(0, _), (1, _), (2, _)]) Tryz.func13 rfl rfl rfl ?_
  intro K0 w0 hno
  repeat' (first | refine stpAllW_1 ?_ | refine stp ?_ | (refine stq ?_ ?_ <;> intro _))
  refine CT.loopX (fun q : Nat × List Slt × List Wrt => (⟨[(0, .val (.int .i64 order)), (1, .sl 7 (q.2.1.map encS)), (8, .row 8 50 8 (q.2.2.map encX)), (13, .sl 7 (ss.map encD)), (14, .val (.int .i64 ss.length)), (15, .val (.int .i64 q.1))], [], []⟩ : St))
    (fun q => q.1 ≤ ss.length ∧ q.2.1.length = s0.length ∧ q.2.2.length ≤ q.1 * (s0.length + 3) ∧ R = if (allPl order q.2.1 (ss.drop q.1)).2 = 0 then (q.2.2 ++ (allPl order q.2.1 (ss.drop q.1)).1, 0) else ([], (allPl order q.2.1 (ss.drop q.1)).2)) (fun q => ss.length - q.1) (0, s0, []) ?_ ⟨Nat.zero_le _, rfl, Nat.zero_le _, ?_⟩ ?_
  · exact subT
  · dsimp only
    rw [List.drop_zero, hR]
    by_cases c : R.2 = 0
    · rw [if_pos c, List.nil_append, ← c]
    · rw [if_neg c]
      rw [← hR] at c ⊢
      cases ss with
      | nil => exact absurd rfl c
      | cons st ss =>
        have hun : allPl order s0 (st :: ss) = if (onePl order s0 st).2 = 0 then (if (allPl order (applyW s0 (onePl order s0 st).1) ss).2 = 0 then ((onePl order s0 st).1 ++ (allPl order (applyW s0 (onePl order s0 st).1) ss).1, 0) else ([], (allPl order (applyW s0 (onePl order s0 st).1) ss).2)) else ([], (onePl order s0 st).2) := rfl
        rw [hun] at c ⊢
        split
        · rename_i h1
          rw [if_pos h1] at c
          split
          · rename_i h2
            rw [if_pos h2] at c
            exact absurd rfl c
          · rfl
        · rfl
  rintro ⟨k, cur, out⟩ ⟨hk, hcl, hol, hq⟩
  dsimp only at hk hcl hol hq ⊢
  by_cases hlt : k < ss.length
  · obtain ⟨st, hst⟩ : ∃ st, ss[k] = st := ⟨_, rfl⟩
    have hat : (ss.map encD)[k]? = some (encD st) := by rw [List.getElem?_map, List.getElem?_eq_getElem hlt, hst]; rfl
    have hun : allPl order cur (ss.drop k) = if (onePl order cur st).2 = 0 then (if (allPl order (applyW cur (onePl order cur st).1) (ss.drop (k + 1))).2 = 0 then ((onePl order cur st).1 ++ (allPl order (applyW cur (onePl order cur st).1) (ss.drop (k + 1))).1, 0) else ([], (allPl order (applyW cur (onePl order cur st).1) (ss.drop (k + 1))).2)) else ([], (onePl order cur st).2) := by
      rw [List.drop_eq_getElem_cons hlt, hst]
      rfl
    rw [hun] at hq
    have g1 := g_One order cur st (by omega)
    have hwl := onePl_len order cur st
    have gA := g_Apply cur (onePl order cur st).1 (by omega) (by omega)
    have hal := applyW_len (onePl order cur st).1 cur
    generalize applyW cur (onePl order cur st).1 = nx at gA hq hal
    generalize onePl order cur st = r at g1 hq gA hwl
    obtain ⟨w, e⟩ := r
    dsimp only at g1 hq gA hwl
    have hb1 : k * (s0.length + 3) ≤ 1000 * (s0.length + 3) := Nat.mul_le_mul_right _ (by omega)
    have hb2 : (k + 1) * (s0.length + 3) = k * (s0.length + 3) + (s0.length + 3) := by rw [Nat.add_mul, Nat.one_mul]
    by_cases he : e = 0
    · rw [if_pos he] at hq
      repeat' (first | (apply LT.cons1; (first | exact OpH.indexS (t := 41) (k := 7) (j := k) rfl slP rfl rfl (by kernel_rfl) hat rfl | exact OpH.callF Tryz.func31 rfl rfl rfl g1 rfl | exact OpH.callF Tryz.func15 rfl rfl rfl gA rfl); (try decide)) | refine stpAllW_1 ?_ | refine stp ?_ | (refine stq ?_ ?_ <;> intro _))
      refine ⟨(k + 1, nx, out ++ w), ⟨by dsimp only; omega, by dsimp only; omega, by dsimp only; rw [List.length_append, hb2]; omega, ?_⟩, by dsimp only; omega, ?_⟩
      · dsimp only
        rw [hq]
        by_cases c : (allPl order nx (ss.drop (k + 1))).2 = 0
        · rw [if_pos c, if_pos rfl, if_pos c, List.append_assoc]
        · rw [if_neg c, if_neg c, if_neg c]
      · exact subT
    · rw [if_neg he, if_neg he] at hq
      subst hq
      repeat' (first | (refine CT.sub (S' := ⟨[(6, .sl 8 (([] : List Wrt).map encX)), (7, .val (.int .i64 e))], [], []⟩) ?_ (CT.ret ?_)) | (apply LT.cons1; (first | exact OpH.indexS (t := 41) (k := 7) (j := k) rfl slP rfl rfl (by kernel_rfl) hat rfl | exact OpH.callF Tryz.func31 rfl rfl rfl g1 rfl); (try decide)) | refine stpAllW_1 ?_ | refine stp ?_ | (refine stq ?_ ?_ <;> intro _))
      · exact subT
      · refine ⟨by first | exact .inl rfl | exact .inr rfl, _, (.cons (.tmp 6 (A := .sl _ _) rfl (fun _ h => by cases h)) (.cons (.tmp 7 (A := .val _) rfl (fun _ h => by cases h)) .nil)), ?_, rfl⟩
        rfl
  · obtain rfl : k = ss.length := by omega
    rw [List.drop_length] at hq
    have hq : R = (out ++ [], 0) := hq
    rw [List.append_nil] at hq
    subst hq
    repeat' (first | (refine CT.sub (S' := ⟨[(6, .sl 8 (out.map encX)), (7, .val (.int .i64 0))], [], []⟩) ?_ (CT.ret ?_)) | refine stpAllW_1 ?_ | refine stp ?_ | (refine stq ?_ ?_ <;> intro _))
    · exact subT
    · refine ⟨by first | exact .inl rfl | exact .inr rfl, _, (.cons (.tmp 6 (A := .sl _ _) rfl (fun _ h => by cases h)) (.cons (.tmp 7 (A := .val _) rfl (fun _ h => by cases h)) .nil)), ?_, rfl⟩
      rfl
end Go.Proofs.YtjmnnkhdadoehaaGreat
