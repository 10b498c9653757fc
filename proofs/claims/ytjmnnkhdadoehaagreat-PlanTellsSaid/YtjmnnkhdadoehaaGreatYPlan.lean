/- A region that draws its order, walked by a plan: as in Mix, and where two operations are ready that are not quiet, both orders. -/
import Derived.Test.YtjmnnkhdadoehaaGreatYRegion
import Derived.Lib.Hide
namespace Go.Proofs.YtjmnnkhdadoehaaGreat
set_option linter.unusedSimpArgs false
set_option linter.unusedVariables false
open Go Go.RowKit

inductive Plan
  | done
  | quiet (i : Nat) (r : Plan)
  | loud (i : Nat) (r : Plan)
  | fork (i : Nat) (r : Plan) (j : Nat) (s : Plan)
def Plan.len : Plan → Nat
  | .done => 0
  | .quiet _ r => r.len + 1
  | .loud _ r => r.len + 1
  | .fork _ r _ _ => r.len + 1

section
variable {P : Program} {ops : Array Oper} {md : Region.Mode} {C : World → Prop}

def wpPlan (P : Program) (ops : Array Oper) (C : World → Prop) (T : Act → World → Prop) : Plan → Act → World → Prop
  | .done, a, w => ∀ w', Later w w' → T a w'
  | .quiet i r, a, w => ∃ o v, ops[i]? = some o ∧ YieldsC P ops C o v a ∧ wpPlan P ops C T r (a.put o.dst v) w
  | .loud i r, a, w => ∀ w', Later w w' → opMix P ops i (fun a' w'' => C w'' ∧ wpPlan P ops C T r a' w'') a w'
  | .fork i r j s, a, w => (∀ w', Later w w' → opMix P ops i (fun a' w'' => C w'' ∧ wpPlan P ops C T r a' w'') a w') ∧ (∀ w', Later w w' → opMix P ops j (fun a' w'' => C w'' ∧ wpPlan P ops C T s a' w'') a w')

theorem wpPlan_later {T : Act → World → Prop} : ∀ (r : Plan) (a : Act) (w w' : World), Later w w' → wpPlan P ops C T r a w → wpPlan P ops C T r a w'
  | .done, _, _, _, h, H => fun w'' h'' => H w'' (h.trans h'')
  | .quiet _ r, _, _, _, h, ⟨o, v, ho, hy, H⟩ => ⟨o, v, ho, hy, wpPlan_later r _ _ _ h H⟩
  | .loud _ _, _, _, _, h, H => fun w'' h'' => H w'' (h.trans h'')
  | .fork _ _ _ _, _, _, _, h, H => ⟨fun w'' h'' => H.1 w'' (h.trans h''), fun w'' h'' => H.2 w'' (h.trans h'')⟩

def planB (md : Region.Mode) (ops : Array Oper) (g n : Nat) : Plan → Array Bool → Bool
  | .done, listed => Region.seqB md ops g n listed
  | .quiet i r, listed => decide (i < n) && (Region.ready md ops listed).contains i && Region.free md ops listed i && planB md ops g n r (listed.setIfInBounds i true)
  | .loud i r, listed => decide (i < n) && decide (Region.ready md ops listed = [i]) && planB md ops g n r (listed.setIfInBounds i true)
  | .fork i r j s, listed => decide (i < n) && decide (j < n) && decide (Region.ready md ops listed = [i, j]) && decide (s.len = r.len) && planB md ops g n r (listed.setIfInBounds i true) && planB md ops g n s (listed.setIfInBounds j true)

theorem wpM_of_plan {n g : Nat} {T : Act → World → Prop} (hCl : ∀ w w', C w → Later w w' → C w') (hsel : Region.noSelect ops = true) (hs : Region.sinkB md ops n = true) (hc : Region.chainB md ops n = true) (hn : n < ops.size) :
    ∀ (r : Plan) (listed : Array Bool) (a : Act) (w : World), HeadInv md ops n listed → planB md ops g n r listed = true → C w → wpPlan P ops C T r a w →
    wpM P md ops C n (fun listed' a' w' => Region.seqB md ops g n listed' = true ∧ T a' w') r.len listed a w
  | .done, listed, a, w, _, hB, _, h => ⟨hB, h _ (Later.refl _)⟩
  | .quiet i r, listed, a, w, inv, hB, hC, h => by
    obtain ⟨o, v, ho, hy, H⟩ := h
    simp only [planB, Bool.and_eq_true, decide_eq_true_eq] at hB
    obtain ⟨⟨⟨hin, hr⟩, hf⟩, hB'⟩ := hB
    have hr' : i ∈ Region.ready md ops listed := by simpa using hr
    exact wpM_first hCl ho (Region.noSelect_spec hsel) hs hc hn hin (fun listed' a' w' hL => seqB_ready hL.1) r.len listed a w inv (Region.free_spec ho hf) hr' hy hC
      fun w' hw' => wpM_of_plan hCl hsel hs hc hn r _ _ w' (inv.set hr' hin) hB' (hCl _ _ hC hw') (wpPlan_later r _ _ _ hw' H)
  | .loud i r, listed, a, w, inv, hB, hC, h => by
    simp only [planB, Bool.and_eq_true, decide_eq_true_eq] at hB
    obtain ⟨⟨hin, hr⟩, hB'⟩ := hB
    have hr' : i ∈ Region.ready md ops listed := by rw [hr]; simp
    refine ⟨fun h0 => (by rw [h0] at hr; cases hr), fun j hj => ?_⟩
    rw [hr] at hj
    obtain rfl : j = i := by simpa using hj
    exact ⟨hin, opMix_mono (fun a' w' h' => ⟨h'.1, fun w'' hw'' => wpM_of_plan hCl hsel hs hc hn r _ _ w'' (inv.set hr' hin) hB' (hCl _ _ h'.1 hw'') (wpPlan_later r _ _ _ hw'' h'.2)⟩) (h w (Later.refl _))⟩
  | .fork i r k s, listed, a, w, inv, hB, hC, h => by
    simp only [planB, Bool.and_eq_true, decide_eq_true_eq] at hB
    obtain ⟨⟨⟨⟨⟨hin, hkn⟩, hr⟩, hlen⟩, hB1⟩, hB2⟩ := hB
    have hri : i ∈ Region.ready md ops listed := by rw [hr]; simp
    have hrk : k ∈ Region.ready md ops listed := by rw [hr]; simp
    refine ⟨fun h0 => (by rw [h0] at hr; cases hr), fun j hj => ?_⟩
    rw [hr] at hj
    have hj' : j = i ∨ j = k := by simpa using hj
    rcases hj' with rfl | rfl
    · exact ⟨hin, opMix_mono (fun a' w' h' => ⟨h'.1, fun w'' hw'' => wpM_of_plan hCl hsel hs hc hn r _ _ w'' (inv.set hri hin) hB1 (hCl _ _ h'.1 hw'') (wpPlan_later r _ _ _ hw'' h'.2)⟩) (h.1 w (Later.refl _))⟩
    · exact ⟨hkn, opMix_mono (fun a' w' h' => ⟨h'.1, fun w'' hw'' => hlen ▸ wpM_of_plan hCl hsel hs hc hn s _ _ w'' (inv.set hrk hkn) hB2 (hCl _ _ h'.1 hw'') (wpPlan_later s _ _ _ hw'' h'.2)⟩) (h.2 w (Later.refl _))⟩

def planAllB (md : Region.Mode) (ops : Array Oper) (n : Nat) (r : Plan) : Bool :=
  Region.noSelect ops && decide (n < ops.size) && Region.sinkB md ops n && Region.chainB md ops n && decide (r.len + (ops.size - n) = ops.size) && planB md ops (ops.size - n) n r (Array.replicate ops.size false)

theorem wp_region_plan {id : Nat} {Q : Exit → Act → World → Prop} {a : Act} {w : World} {l : List Oper} (n : Nat) (r : Plan) (hm : P.follows .mixedOrders = true) (hB : planAllB .any l.toArray n r = true)
    (h : wpPlan P l.toArray (fun w' => ∃ p : Ext, w' = grew w p) (fun a' w' => wpList P l.toArray Q (l.drop n) a' w') r a w) : (Code.region id l.toArray true).wp P Q a w := by
  simp only [planAllB, Bool.and_eq_true, decide_eq_true_eq] at hB
  obtain ⟨⟨⟨⟨⟨hsel, hn⟩, hs⟩, hc⟩, hlen⟩, hmix⟩ := hB
  have hdl : (l.drop n).length = l.toArray.size - n := by simp
  have inv0 : HeadInv .any l.toArray n (Array.replicate l.toArray.size false) :=
    ⟨by simp, fun j oj _ hl => (by rw [getD_replicate_false] at hl; cases hl), fun t _ ht => getD_in (by simpa using ht) (getD_replicate_false _ _)⟩
  have hCl : ∀ w1 w2, (∃ p : Ext, w1 = grew w p) → Later w1 w2 → ∃ p : Ext, w2 = grew w p := fun w1 w2 ⟨p, h1⟩ h2 => by
    subst h1
    obtain ⟨q, hq⟩ := below_grew h2
    exact ⟨_, hq.trans (grew_grew w p q)⟩
  have hd : Later w { w with drawn := w.drawn + 1 } := ⟨rfl, rfl, rfl, Nat.le_refl _, fun _ _ => rfl⟩
  have H := wpM_of_plan (md := .any) (g := l.toArray.size - n) (T := fun a' w' => wpList P l.toArray Q (l.drop n) a' w') hCl hsel hs hc hn r _ a _ inv0 hmix ⟨⟨w.drawn + 1, #[]⟩, drew_grew w⟩ (wpPlan_later r _ _ _ hd h)
  refine wp_region_any hm ?_
  have := wpAny_of_wpM (Q' := Q) (g := l.toArray.size - n) (fun listed a' w' hL => by
    have := wpAny_of_seq (md := .any) (Q' := Q) (l.drop n) n listed a' w' (fun j => by simp [List.getElem?_drop]) (by rw [hdl]; exact hL.1) hL.2
    rwa [hdl] at this) _ _ _ _ H
  rw [hlen] at this
  exact this
end

section
variable {P : Program} {ops : Array Oper} {C : World → Prop} {T : Act → World → Prop} {a : Act} {w : World} {r s : Plan} {i j : Nat}

theorem plan_quiet {o : Oper} (ho : ops[i]? = some o)
    (h : ∀ K : Act → Prop, (∀ a, wpPlan P ops C T r a w → K a) → if Region.wanted o (yielded ops a.tmps) then (∃ v, (∀ w', C w' → Oper.quietUpon P (Later w') w' v ((execOp a.eval o).run P w')) ∧ K (a.put o.dst v)) else K (a.put o.dst undef)) :
    wpPlan P ops C T (.quiet i r) a w := by
  have h1 := h _ (fun _ h => h)
  by_cases hw : Region.wanted o (yielded ops a.tmps) = true
  · rw [if_pos hw] at h1
    obtain ⟨v, h2, h3⟩ := h1
    exact ⟨o, v, ho, .inl ⟨hw, h2⟩, h3⟩
  · rw [if_neg hw] at h1
    exact ⟨o, undef, ho, .inr ⟨by simpa using hw, rfl⟩, h1⟩

theorem plan_loud_aux {o : Oper} (ho : ops[i]? = some o)
    (h : ∀ (p : Ext) (K : Act → World → Prop), (∀ a w', C w' → wpPlan P ops C T r a w' → K a w') → if Region.wanted o (yielded ops a.tmps) then o.wp P a (grew w p) K (fun _ _ _ => False) else K (a.put o.dst undef) (grew w p)) :
    ∀ w', Later w w' → opMix P ops i (fun a' w'' => C w'' ∧ wpPlan P ops C T r a' w'') a w' := by
  intro w' hw'
  obtain ⟨p, hp⟩ := below_grew hw'
  subst hp
  have h1 := h p _ (fun a w' hc hk => (⟨hc, hk⟩ : C w' ∧ wpPlan P ops C T r a w'))
  unfold opMix
  simp only [ho]
  by_cases hw : Region.wanted o (yielded ops a.tmps) = true
  · rw [if_pos hw] at h1 ⊢; exact h1
  · rw [if_neg hw] at h1 ⊢; exact h1
theorem plan_loud {o : Oper} (ho : ops[i]? = some o)
    (h : ∀ (p : Ext) (K : Act → World → Prop), (∀ a w', C w' → wpPlan P ops C T r a w' → K a w') → if Region.wanted o (yielded ops a.tmps) then o.wp P a (grew w p) K (fun _ _ _ => False) else K (a.put o.dst undef) (grew w p)) : wpPlan P ops C T (.loud i r) a w :=
  plan_loud_aux ho h
theorem plan_app {o : Oper} (ho : ops[i]? = some o) (hg : o.guard = none)
    (h : Hid (∀ (p : Ext) (K : Act → World → Prop), (∀ a w', C w' → wpPlan P ops C T r a w' → K a w') → o.wp P a (grew w p) K (fun _ _ _ => False))) : wpPlan P ops C T (.loud i r) a w := by
  refine plan_loud ho fun p K hK => ?_
  have : Region.wanted o (yielded ops a.tmps) = true := by unfold Region.wanted; rw [hg]
  rw [if_pos this]
  exact h p K hK
theorem below_more (W : World) (q : Ext) (d : Nat) (X : Array Obj) : Below (grew W q).heap.size (grew W q) (grew W ⟨d, q.os ++ X⟩) := by
  have h := grew_below (grew W q) ⟨d, X⟩
  rw [grew_grew] at h
  exact h
theorem plan_end (h : ∀ p : Ext, T a (grew w p)) : wpPlan P ops C T .done a w := fun w' hw' => by
  obtain ⟨p, hp⟩ := below_grew hw'
  subst hp
  exact h p
end
end Go.Proofs.YtjmnnkhdadoehaaGreat

/- Worlds that grew in steps. -/
namespace Go.Proofs.YtjmnnkhdadoehaaGreat
set_option linter.unusedSimpArgs false
set_option linter.unusedVariables false
open Go Go.RowKit
theorem below_app (W : World) (q : Ext) (d : Nat) (Y Z : Array Obj) (h : Y = q.os ++ Z) : Below (grew W q).heap.size (grew W q) (grew W ⟨d, Y⟩) := by
  subst h; exact below_more W q d Z
end Go.Proofs.YtjmnnkhdadoehaaGreat

/- A region that draws its order, walked by a plan: as in Mix, and where two operations are ready that are not quiet, both orders. -/
namespace Go.Proofs.YtjmnnkhdadoehaaGreat.D
open Go Go.RowKit

inductive Plan
  | done
  | quiet (i : Nat) (r : Plan)
  | loud (i : Nat) (r : Plan)
  | fork (i : Nat) (r : Plan) (j : Nat) (s : Plan)
def Plan.len : Plan → Nat
  | .done => 0
  | .quiet _ r => r.len + 1
  | .loud _ r => r.len + 1
  | .fork _ r _ _ => r.len + 1

section
variable {P : Program} {ops : Array Oper} {md : Region.Mode} {C : World → Prop}

def wpPlan (P : Program) (ops : Array Oper) (C : World → Prop) (T : Act → World → Prop) : Plan → Act → World → Prop
  | .done, a, w => ∀ w', Later w w' → T a w'
  | .quiet i r, a, w => ∃ o v, ops[i]? = some o ∧ YieldsC P ops C o v a ∧ wpPlan P ops C T r (a.put o.dst v) w
  | .loud i r, a, w => ∀ w', Later w w' → opMix P ops i (fun a' w'' => C w'' ∧ wpPlan P ops C T r a' w'') a w'
  | .fork i r j s, a, w => (∀ w', Later w w' → opMix P ops i (fun a' w'' => C w'' ∧ wpPlan P ops C T r a' w'') a w') ∧ (∀ w', Later w w' → opMix P ops j (fun a' w'' => C w'' ∧ wpPlan P ops C T s a' w'') a w')

theorem wpPlan_later {T : Act → World → Prop} : ∀ (r : Plan) (a : Act) (w w' : World), Later w w' → wpPlan P ops C T r a w → wpPlan P ops C T r a w'
  | .done, _, _, _, h, H => fun w'' h'' => H w'' (h.trans h'')
  | .quiet _ r, _, _, _, h, ⟨o, v, ho, hy, H⟩ => ⟨o, v, ho, hy, wpPlan_later r _ _ _ h H⟩
  | .loud _ _, _, _, _, h, H => fun w'' h'' => H w'' (h.trans h'')
  | .fork _ _ _ _, _, _, _, h, H => ⟨fun w'' h'' => H.1 w'' (h.trans h''), fun w'' h'' => H.2 w'' (h.trans h'')⟩

def planB (md : Region.Mode) (ops : Array Oper) (g n : Nat) : Plan → Array Bool → Bool
  | .done, listed => Region.seqB md ops g n listed
  | .quiet i r, listed => decide (i < n) && (Region.ready md ops listed).contains i && Region.free md ops listed i && planB md ops g n r (listed.setIfInBounds i true)
  | .loud i r, listed => decide (i < n) && decide (Region.ready md ops listed = [i]) && planB md ops g n r (listed.setIfInBounds i true)
  | .fork i r j s, listed => decide (i < n) && decide (j < n) && decide (Region.ready md ops listed = [i, j]) && decide (s.len = r.len) && planB md ops g n r (listed.setIfInBounds i true) && planB md ops g n s (listed.setIfInBounds j true)

theorem wpM_of_plan {n g : Nat} {T : Act → World → Prop} (hCl : ∀ w w', C w → Later w w' → C w') (hsel : Region.noSelect ops = true) (hs : Region.sinkB md ops n = true) (hc : Region.chainB md ops n = true) (hn : n < ops.size) :
    ∀ (r : Plan) (listed : Array Bool) (a : Act) (w : World), HeadInv md ops n listed → planB md ops g n r listed = true → C w → wpPlan P ops C T r a w →
    wpM P md ops C n (fun listed' a' w' => Region.seqB md ops g n listed' = true ∧ T a' w') r.len listed a w
  | .done, listed, a, w, _, hB, _, h => ⟨hB, h _ (Later.refl _)⟩
  | .quiet i r, listed, a, w, inv, hB, hC, h => by
    obtain ⟨o, v, ho, hy, H⟩ := h
    simp only [planB, Bool.and_eq_true, decide_eq_true_eq] at hB
    obtain ⟨⟨⟨hin, hr⟩, hf⟩, hB'⟩ := hB
    have hr' : i ∈ Region.ready md ops listed := by simpa using hr
    exact wpM_first hCl ho (Region.noSelect_spec hsel) hs hc hn hin (fun listed' a' w' hL => seqB_ready hL.1) r.len listed a w inv (Region.free_spec ho hf) hr' hy hC
      fun w' hw' => wpM_of_plan hCl hsel hs hc hn r _ _ w' (inv.set hr' hin) hB' (hCl _ _ hC hw') (wpPlan_later r _ _ _ hw' H)
  | .loud i r, listed, a, w, inv, hB, hC, h => by
    simp only [planB, Bool.and_eq_true, decide_eq_true_eq] at hB
    obtain ⟨⟨hin, hr⟩, hB'⟩ := hB
    have hr' : i ∈ Region.ready md ops listed := by rw [hr]; simp
    refine ⟨fun h0 => (by rw [h0] at hr; cases hr), fun j hj => ?_⟩
    rw [hr] at hj
    obtain rfl : j = i := by simpa using hj
    exact ⟨hin, opMix_mono (fun a' w' h' => ⟨h'.1, fun w'' hw'' => wpM_of_plan hCl hsel hs hc hn r _ _ w'' (inv.set hr' hin) hB' (hCl _ _ h'.1 hw'') (wpPlan_later r _ _ _ hw'' h'.2)⟩) (h w (Later.refl _))⟩
  | .fork i r k s, listed, a, w, inv, hB, hC, h => by
    simp only [planB, Bool.and_eq_true, decide_eq_true_eq] at hB
    obtain ⟨⟨⟨⟨⟨hin, hkn⟩, hr⟩, hlen⟩, hB1⟩, hB2⟩ := hB
    have hri : i ∈ Region.ready md ops listed := by rw [hr]; simp
    have hrk : k ∈ Region.ready md ops listed := by rw [hr]; simp
    refine ⟨fun h0 => (by rw [h0] at hr; cases hr), fun j hj => ?_⟩
    rw [hr] at hj
    have hj' : j = i ∨ j = k := by simpa using hj
    rcases hj' with rfl | rfl
    · exact ⟨hin, opMix_mono (fun a' w' h' => ⟨h'.1, fun w'' hw'' => wpM_of_plan hCl hsel hs hc hn r _ _ w'' (inv.set hri hin) hB1 (hCl _ _ h'.1 hw'') (wpPlan_later r _ _ _ hw'' h'.2)⟩) (h.1 w (Later.refl _))⟩
    · exact ⟨hkn, opMix_mono (fun a' w' h' => ⟨h'.1, fun w'' hw'' => hlen ▸ wpM_of_plan hCl hsel hs hc hn s _ _ w'' (inv.set hrk hkn) hB2 (hCl _ _ h'.1 hw'') (wpPlan_later s _ _ _ hw'' h'.2)⟩) (h.2 w (Later.refl _))⟩

def planAllB (md : Region.Mode) (ops : Array Oper) (n : Nat) (r : Plan) : Bool :=
  Region.noSelect ops && decide (n < ops.size) && Region.sinkB md ops n && Region.chainB md ops n && decide (r.len + (ops.size - n) = ops.size) && planB md ops (ops.size - n) n r (Array.replicate ops.size false)

theorem wp_region_plan {id : Nat} {Q : Exit → Act → World → Prop} {a : Act} {w : World} {l : List Oper} (n : Nat) (r : Plan) (hm : P.follows .mixedOrders = true) (hB : planAllB .any l.toArray n r = true)
    (h : wpPlan P l.toArray (fun w' => ∃ p : Ext, w' = grew w p) (fun a' w' => wpList P l.toArray Q (l.drop n) a' w') r a w) : (Code.region id l.toArray true).wp P Q a w := by
  simp only [planAllB, Bool.and_eq_true, decide_eq_true_eq] at hB
  obtain ⟨⟨⟨⟨⟨hsel, hn⟩, hs⟩, hc⟩, hlen⟩, hmix⟩ := hB
  have hdl : (l.drop n).length = l.toArray.size - n := by simp
  have inv0 : HeadInv .any l.toArray n (Array.replicate l.toArray.size false) :=
    ⟨by simp, fun j oj _ hl => (by rw [getD_replicate_false] at hl; cases hl), fun t _ ht => getD_in (by simpa using ht) (getD_replicate_false _ _)⟩
  have hCl : ∀ w1 w2, (∃ p : Ext, w1 = grew w p) → Later w1 w2 → ∃ p : Ext, w2 = grew w p := fun w1 w2 ⟨p, h1⟩ h2 => by
    subst h1
    obtain ⟨q, hq⟩ := below_grew h2
    exact ⟨_, hq.trans (grew_grew w p q)⟩
  have hd : Later w { w with drawn := w.drawn + 1 } := later_one w
  have H := wpM_of_plan (md := .any) (g := l.toArray.size - n) (T := fun a' w' => wpList P l.toArray Q (l.drop n) a' w') hCl hsel hs hc hn r _ a _ inv0 hmix ⟨⟨1, #[]⟩, drew_grew w⟩ (wpPlan_later r _ _ _ hd h)
  refine wp_region_any hm ?_
  have := wpAny_of_wpM (Q' := Q) (g := l.toArray.size - n) (fun listed a' w' hL => by
    have := wpAny_of_seq (md := .any) (Q' := Q) (l.drop n) n listed a' w' (fun j => by simp [List.getElem?_drop]) (by rw [hdl]; exact hL.1) hL.2
    rwa [hdl] at this) _ _ _ _ H
  rw [hlen] at this
  exact this
end

section
variable {P : Program} {ops : Array Oper} {C : World → Prop} {T : Act → World → Prop} {a : Act} {w : World} {r s : Plan} {i j : Nat}

theorem plan_quiet {o : Oper} (ho : ops[i]? = some o)
    (h : ∀ K : Act → Prop, (∀ a, wpPlan P ops C T r a w → K a) → if Region.wanted o (yielded ops a.tmps) then (∃ v, (∀ w', C w' → Oper.quietUpon P (Later w') w' v ((execOp a.eval o).run P w')) ∧ K (a.put o.dst v)) else K (a.put o.dst undef)) :
    wpPlan P ops C T (.quiet i r) a w := by
  have h1 := h _ (fun _ h => h)
  by_cases hw : Region.wanted o (yielded ops a.tmps) = true
  · rw [if_pos hw] at h1
    obtain ⟨v, h2, h3⟩ := h1
    exact ⟨o, v, ho, .inl ⟨hw, h2⟩, h3⟩
  · rw [if_neg hw] at h1
    exact ⟨o, undef, ho, .inr ⟨by simpa using hw, rfl⟩, h1⟩

theorem plan_loud_aux {o : Oper} (ho : ops[i]? = some o)
    (h : ∀ (p : Ext) (K : Act → World → Prop), (∀ a w', C w' → wpPlan P ops C T r a w' → K a w') → if Region.wanted o (yielded ops a.tmps) then o.wp P a (grew w p) K (fun _ _ _ => False) else K (a.put o.dst undef) (grew w p)) :
    ∀ w', Later w w' → opMix P ops i (fun a' w'' => C w'' ∧ wpPlan P ops C T r a' w'') a w' := by
  intro w' hw'
  obtain ⟨p, hp⟩ := below_grew hw'
  subst hp
  have h1 := h p _ (fun a w' hc hk => (⟨hc, hk⟩ : C w' ∧ wpPlan P ops C T r a w'))
  unfold opMix
  simp only [ho]
  by_cases hw : Region.wanted o (yielded ops a.tmps) = true
  · rw [if_pos hw] at h1 ⊢; exact h1
  · rw [if_neg hw] at h1 ⊢; exact h1
theorem plan_loud {o : Oper} (ho : ops[i]? = some o)
    (h : ∀ (p : Ext) (K : Act → World → Prop), (∀ a w', C w' → wpPlan P ops C T r a w' → K a w') → if Region.wanted o (yielded ops a.tmps) then o.wp P a (grew w p) K (fun _ _ _ => False) else K (a.put o.dst undef) (grew w p)) : wpPlan P ops C T (.loud i r) a w :=
  plan_loud_aux ho h
theorem plan_app {o : Oper} (ho : ops[i]? = some o) (hg : o.guard = none)
    (h : Hid (∀ (p : Ext) (K : Act → World → Prop), (∀ a w', C w' → wpPlan P ops C T r a w' → K a w') → o.wp P a (grew w p) K (fun _ _ _ => False))) : wpPlan P ops C T (.loud i r) a w := by
  refine plan_loud ho fun p K hK => ?_
  have : Region.wanted o (yielded ops a.tmps) = true := by unfold Region.wanted; rw [hg]
  rw [if_pos this]
  exact h p K hK
theorem below_more (W : World) (q : Ext) (d : Nat) (X : Array Obj) : Later (grew W q) (grew W ⟨q.d + d, q.os ++ X⟩) := ⟨⟨d, X⟩, by rw [grew_grew]⟩
theorem plan_end (h : ∀ p : Ext, T a (grew w p)) : wpPlan P ops C T .done a w := fun w' hw' => by
  obtain ⟨p, hp⟩ := below_grew hw'
  subst hp
  exact h p
end
end Go.Proofs.YtjmnnkhdadoehaaGreat.D
