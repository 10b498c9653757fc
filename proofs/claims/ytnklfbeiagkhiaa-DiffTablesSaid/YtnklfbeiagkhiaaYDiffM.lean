/- What is told behind steps, in plain Lean. -/
import Derived.Test.YtnklfbeiagkhiaaYDiffL
import Derived.Test.YtnklfbeiagkhiaaYLawTells
namespace Go.Proofs.Ytnklfbeiagkhiaa
set_option linter.unusedSimpArgs false
set_option linter.unusedVariables false
open Go
theorem alike_word {x y : Ent} (h : eAlike x y = true) : x.w = y.w ∧ x.len = y.len := by
  unfold eAlike same at h
  simpa using h
theorem SimpleR.noAlike {l : List Ent} (h : SimpleR l) : NoAlike l := by
  refine h.imp fun {x y} hxy => ?_
  cases hq : eAlike x y with
  | false => rfl
  | true =>
    obtain ⟨h1, h2⟩ := alike_word hq
    exact absurd ⟨h2.symm, by rw [h1]; exact rMeet_self _⟩ hxy
theorem sorted_len {l : List Ent} {i j : Nat} (hj : j < (sortE l).length) (hij : i < j) : (sortE l)[j].len ≤ ((sortE l)[i]'(by omega)).len := by
  have h := (List.pairwise_iff_getElem.1 (sortE_pairwise l)) i j (by omega) hj hij
  unfold eLe at h
  simp only [decide_eq_true_eq] at h
  rw [eCmp_lex] at h
  unfold lexKey at h
  rcases h with h | ⟨h, _⟩ <;> omega
theorem adds_tell {a b l : List Ent} {ad : A2} {j : Nat} (ua : Uniq a ad) (ub : Uniq b ad) (h : Adds a ((sortE b).take j) l) : tell l ad = tell a ad ∨ tell l ad = tell b ad := by
  by_cases hp : ∃ x ∈ (sortE b).take j, wMatch x.w ad = true
  · obtain ⟨x, hx, hxm⟩ := hp
    have hpb : ∀ z ∈ (sortE b).take j, z ∈ b := fun z hz => sortE_mem.1 (List.mem_of_mem_take hz)
    obtain ⟨Y, hY, hYm, hYb, hYt⟩ := tell_has (hpb x hx) hxm
    have hYp : Y ∈ (sortE b).take j := by
      obtain ⟨m, hm, rfl⟩ := List.mem_iff_getElem.1 hx
      obtain ⟨i, hi, e⟩ := List.mem_iff_getElem.1 (sortE_mem.2 hY)
      simp only [List.length_take] at hm
      by_cases hij : i < j
      · exact List.mem_iff_getElem.2 ⟨i, by simp; omega, by rw [List.getElem_take, e]⟩
      · have h1 := sorted_len (l := b) hi (show m < i by omega)
        rw [e] at h1
        have hx2 := hx
        rw [List.getElem_take] at hxm hx2
        have h2 := hYb _ (sortE_mem.1 (List.getElem_mem (show m < (sortE b).length by omega))) hxm
        have := ub.eq _ (sortE_mem.1 (List.getElem_mem (show m < (sortE b).length by omega))) Y hY hxm hYm (by omega)
        rw [← this]; exact hx2
    obtain ⟨e, he, hem, heb, het⟩ := tell_has ((h.mem Y).2 (.inl hYp)) hYm
    have h1 := heb Y ((h.mem Y).2 (.inl hYp)) hYm
    rcases (h.mem e).1 he with hep | ⟨hea, hno⟩
    · have h2 := hYb e (hpb e hep) hem
      have := ub.eq e (hpb e hep) Y hY hem hYm (by omega)
      subst this
      exact .inr (by rw [het, hYt])
    · obtain ⟨X, hX, hXm, hXb, hXt⟩ := tell_has hea hem
      have h2 := hXb e hea hem
      rcases alike_cases ((sortE b).take j) X with hc | ⟨z, hz, hc⟩
      · have h3 := heb X ((h.mem X).2 (.inr ⟨hX, hc⟩)) hXm
        have := ua.eq e hea X hX hem hXm (by omega)
        subst this
        exact .inl (by rw [het, hXt])
      · obtain ⟨q1, q2⟩ := alike_word hc
        have h3 := hYb z (hpb z hz) (by rw [← q1]; exact hXm)
        have := ua.eq e hea X hX hem hXm (by omega)
        subst this
        rw [hno z hz] at hc; cases hc
  · refine .inl (tell_eq (fun e hem => ?_) ua)
    rw [h.mem]
    constructor
    · exact fun he => .inr ⟨he, fun x hx => by
        cases hq : eAlike e x with
        | false => rfl
        | true => exact absurd ⟨x, hx, by rw [← (alike_word hq).1]; exact hem⟩ hp⟩
    · rintro (he | ⟨he, _⟩)
      · exact absurd ⟨e, he, hem⟩ hp
      · exact he
theorem drops_tell {a b l : List Ent} {ad : A2} {j : Nat} (ua : Uniq a ad) (ub : Uniq b ad) (h : Drops a b ((sortE a).reverse.take j) l) : tell l ad = tell a ad ∨ tell l ad = tell b ad := by
  rcases tell_is l ad with ⟨h1, h2⟩ | ⟨e, he, hem, heb, het⟩
  · rcases tell_is b ad with ⟨k1, _⟩ | ⟨f, hf, k1, _⟩
    · exact .inr (by rw [h1, k1])
    · rw [h2 f ((h.mem f).2 (.inl hf))] at k1; cases k1
  · rcases (h.mem e).1 he with hb | ⟨hea, hno, hq⟩
    · refine .inr ?_
      rw [het]
      exact (tell_best ub hb hem fun f hf hfm => heb f ((h.mem f).2 (.inl hf)) hfm).symm
    · obtain ⟨X, hX, hXm, hXb, hXt⟩ := tell_has hea hem
      have h2 := hXb e hea hem
      have key : e.len = X.len → tell l ad = tell a ad := fun hl => by
        have := ua.eq e hea X hX hem hXm hl
        subst this
        rw [het, hXt]
      rcases alike_cases b X with hc | ⟨z, hz, hc⟩
      · by_cases hXq : X ∈ (sortE a).reverse.take j
        · refine .inl (key ?_)
          obtain ⟨m, hm, rfl⟩ := List.mem_iff_getElem.1 hXq
          obtain ⟨i, hi, rfl⟩ := List.mem_iff_getElem.1 (List.mem_reverse.2 (sortE_mem.2 hea))
          simp only [List.length_take, List.length_reverse] at hm hi
          have hij : ¬ i < j := fun hij => hq (List.mem_iff_getElem.2 ⟨i, by simp; omega, by rw [List.getElem_take]⟩)
          rw [List.getElem_take] at *
          rw [List.getElem_reverse, List.getElem_reverse] at *
          have := sorted_len (l := a) (i := (sortE a).length - 1 - i) (j := (sortE a).length - 1 - m) (by omega) (by omega)
          omega
        · exact .inl (key (by have := heb X ((h.mem X).2 (.inr ⟨hX, hc, hXq⟩)) hXm; omega))
      · obtain ⟨q1, q2⟩ := alike_word hc
        have h3 := heb z ((h.mem z).2 (.inl hz)) (by rw [← q1]; exact hXm)
        exact .inl (key (by omega))
theorem flat_take {α β : Type} (f : α → List β) (hf : ∀ x, (f x).length ≤ 1) : ∀ (l : List α) (k : Nat), ∃ j, j ≤ l.length ∧ (l.flatMap f).take k = (l.take j).flatMap f
  | [], k => ⟨0, Nat.le_refl _, by simp⟩
  | x :: l, 0 => ⟨0, Nat.zero_le _, by simp⟩
  | x :: l, k + 1 => by
    have h1 := hf x
    match hx : f x with
    | [] =>
      obtain ⟨j, hj, e⟩ := flat_take f hf l (k + 1)
      exact ⟨j + 1, by simp; omega, by rw [List.flatMap_cons, hx, List.nil_append, e, List.take_succ_cons, List.flatMap_cons, hx]; rfl⟩
    | [s] =>
      obtain ⟨j, hj, e⟩ := flat_take f hf l k
      exact ⟨j + 1, by simp; omega, by rw [List.flatMap_cons, hx, List.take_succ_cons, List.flatMap_cons, hx, List.singleton_append, List.take_succ_cons, e]; rfl⟩
    | _ :: _ :: _ => rw [hx] at h1; simp at h1
/-- Behind any of the steps. -/
theorem told_mid {old new : List Ent} {ad : A2} (h1 : SimpleR old) (h2 : SimpleR new) (m1 : ∀ x ∈ old, wMatch x.w ad = rMatch x.w ad) (m2 : ∀ x ∈ new, wMatch x.w ad = rMatch x.w ad) (k : Nat) :
    tell (doSteps ((stepsOf old new).take k) old) ad = tell old ad ∨ tell (doSteps ((stepsOf old new).take k) old) ad = tell new ad := by
  have ha := h1.noAlike
  have hb := h2.noAlike
  have ua := h1.uniq m1
  have ub := h2.uniq m2
  have hsb := hb.perm (sortE_perm new)
  unfold stepsOf
  rw [once_self ha, once_self hb, List.take_append]
  by_cases hk : k ≤ ((sortE new).flatMap (addStep old)).length
  · obtain ⟨j, hj, e⟩ := flat_take (addStep old) (addStep_length old) (sortE new) k
    rw [show k - ((sortE new).flatMap (addStep old)).length = 0 by omega, List.take_zero, List.append_nil, e]
    exact adds_tell ua ub (adds_all ha hsb j hj)
  · obtain ⟨j, hj, e⟩ := flat_take (dropStep new) (dropStep_length new) (sortE old).reverse (k - ((sortE new).flatMap (addStep old)).length)
    rw [List.take_of_length_le (by omega), e, doSteps_append]
    have hA := adds_all ha hsb (sortE new).length (Nat.le_refl _)
    rw [List.take_of_length_le (Nat.le_refl _)] at hA
    exact drops_tell ua ub (drops_all ha hA (sortE_perm new) (fun x hx => sortE_mem.1 (List.mem_reverse.1 hx)) j hj)
theorem told_end {old new : List Ent} {ad : A2} (h1 : SimpleR old) (h2 : SimpleR new) (m2 : ∀ x ∈ new, wMatch x.w ad = rMatch x.w ad) : tell (doSteps (stepsOf old new) old) ad = tell new ad := by
  have hp := steps_perm old new
  rw [once_self h1.noAlike, once_self h2.noAlike] at hp
  exact tell_eq (fun e _ => hp.mem_iff.symm) (h2.uniq m2)
end Go.Proofs.Ytnklfbeiagkhiaa
