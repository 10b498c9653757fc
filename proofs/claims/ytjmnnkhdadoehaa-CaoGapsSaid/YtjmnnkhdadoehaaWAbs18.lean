/- Abstract walks: drawn regions in whose head a call gives a row of the call's own. -/
import Derived.Test.YtjmnnkhdadoehaaWAbs8
namespace Go.Proofs.Ytjmnnkhdadoehaa
set_option linter.unusedSimpArgs false
set_option linter.unusedVariables false
open Go Go.RowKit Go.Shelf
section
variable {P : Program} {N : Nat} {K0 : Know} {w0 : Bas} {S : St} {ops : Array Oper}
/-- An operation that gives a new row, named by its slot. -/
def RowOp (P : Program) (N : Nat) (K0 : Know) (w0 : Bas) (o : Oper) (S : St) (v : AV) : Prop :=
  ∃ (d e k : Nat) (xs : Cells), v = .row d e k xs ∧ o.dst = some d ∧ d < N ∧ ∀ T : St, T.mem = S.mem → (∀ x ∈ o.op.operands.toList, T.opv x = S.opv x) → T.free d = true → OpT P N K0 w0 o T fun S' => S' = T.put d v
def HOkR (P : Program) (N : Nat) (K0 : Know) (w0 : Bas) (ops : Array Oper) (o : Oper) (S : St) (v : AV) (r : Bool) : Prop :=
  (r = false ∧ HOk P N K0 w0 ops o S v) ∨ (r = true ∧ GuardIs ops o S true ∧ RowOp P N K0 w0 o S v)
structure HInvR (rs : Nat → Bool) (ops : Array Oper) (n : Nat) (S : St) (vs : List AV) (listed : Array Bool) (T : St) : Prop where
  mem : T.mem = S.mem
  got : ∀ j t v, j < n → listed.getD j true = true → dstAt ops j = some t → vs[j]? = some v → T.get t = v
  no : ∀ t, (∀ j, j < n → listed.getD j true = true → dstAt ops j ≠ some t) → T.get t = S.get t
  fr : ∀ j d, j < n → listed.getD j true = false → rs j = true → dstAt ops j = some d → T.free d = true
/-- The head, in the order of the text. -/
def HR (P : Program) (N : Nat) (K0 : Know) (w0 : Bas) (ops : Array Oper) : List Oper → St → List AV → List Bool → (List AV → List Bool → St → Prop) → Prop
  | [], S, vs, rs, Q => Q vs rs S
  | o :: l, S, vs, rs, Q => ∃ v r, HOkR P N K0 w0 ops o S v r ∧ HR P N K0 w0 ops l (S.putO o.dst v) (vs ++ [v]) (rs ++ [r]) Q
theorem HR.elim : ∀ {l : List Oper} {S : St} {vs0 : List AV} {rs0 : List Bool} {Q : List AV → List Bool → St → Prop}, HR P N K0 w0 ops l S vs0 rs0 Q → ∃ (vs : List AV) (rs : List Bool), vs.length = l.length ∧ rs.length = l.length ∧
    (∀ (i : Nat) o v r, l[i]? = some o → vs[i]? = some v → rs[i]? = some r → HOkR P N K0 w0 ops o (foldS S (l.take i) (vs.take i)) v r) ∧ Q (vs0 ++ vs) (rs0 ++ rs) (foldS S l vs)
  | [], S, vs0, rs0, Q, h => ⟨[], [], rfl, rfl, fun i o v r h => by simp at h, by simpa [HR, foldS] using h⟩
  | o :: l, S, vs0, rs0, Q, ⟨v, r, h1, h2⟩ => by
    obtain ⟨vs, rs, h3, h3', h4, h5⟩ := HR.elim h2
    refine ⟨v :: vs, r :: rs, by simp [h3], by simp [h3'], fun i o' v' r' ho hv hr => ?_, by simpa [foldS] using h5⟩
    cases i with
    | zero => simp at ho hv hr; subst ho hv hr; exact h1
    | succ i => exact h4 i o' v' r' (by simpa using ho) (by simpa using hv) (by simpa using hr)
/-- Each new row's name is new, and no other value speaks of it. -/
def freshR (ops : Array Oper) (S : St) (vs : List AV) (rs : List Bool) : Bool :=
  (List.range rs.length).all fun j => match rs[j]? with
    | some true => (match dstAt ops j with
      | some d => S.free d && (List.range rs.length).all fun i => Nat.beq i j || (match vs[i]? with | some v => v.free d | none => false)
      | none => true)
    | _ => true
theorem rs_true {rs : List Bool} {j : Nat} (h : (rs[j]?).getD false = true) : rs[j]? = some true := by
  cases hh : rs[j]? with
  | none => rw [hh] at h; cases h
  | some b => rw [hh] at h; simp at h; rw [h]
theorem freshR_at {vs : List AV} {rs : List Bool} (h : freshR ops S vs rs = true) {j d : Nat} (hj : j < rs.length) (hr : rs[j]? = some true) (hd : dstAt ops j = some d) :
    S.free d = true ∧ ∀ i, i < rs.length → i ≠ j → ∀ v, vs[i]? = some v → v.free d = true := by
  have h1 := List.all_eq_true.1 h j (List.mem_range.2 hj)
  simp only [hr, hd, Bool.and_eq_true] at h1
  refine ⟨h1.1, fun i hi hne v hv => ?_⟩
  have h2 := List.all_eq_true.1 h1.2 i (List.mem_range.2 hi)
  have hb : Nat.beq i j = false := by
    cases e : Nat.beq i j with
    | false => rfl
    | true => exact absurd (Nat.eq_of_beq_eq_true e) hne
  rw [hb, Bool.false_or, hv] at h2
  exact h2
/-- Each of the tail waits for one ahead of it in the tail. -/
def chainW (ops : Array Oper) (n : Nat) : Bool :=
  (List.range ops.size).all fun t => decide (t ≤ n) || (List.range t).any fun j => decide (n ≤ j) && Region.waitsFor .any ops t j
theorem chainW_of {n : Nat} (h : Region.chainB .any ops n = true) : chainW ops n = true := by
  refine List.all_eq_true.2 fun t ht => ?_
  have h1 := List.all_eq_true.1 h t ht
  simp only [Bool.or_eq_true, decide_eq_true_eq] at h1 ⊢
  rcases h1 with h1 | h1
  · exact .inl h1
  · by_cases c : t ≤ n
    · exact .inl c
    · refine .inr (List.any_eq_true.2 ⟨t - 1, List.mem_range.2 (by omega), ?_⟩)
      rw [Bool.and_eq_true, decide_eq_true_eq]
      exact ⟨by omega, h1⟩
theorem tail_waitsW {n : Nat} {listed : Array Bool} (hs : Region.sinkB .any ops n = true) (hc : chainW ops n = true) (hn : n < ops.size) (inv : HeadInv .any ops n listed) :
    ∀ (d i : Nat), n - i = d → i < n → listed.getD i true = false → ∀ t, n ≤ t → t ∉ Region.ready .any ops listed := by
  intro d
  induction d using Nat.strongRecOn with
  | _ d ih =>
    intro i hd hi hun t ht hr
    obtain ⟨_, ot, hot, hall⟩ := mem_ready.1 hr
    have htlt : t < ops.size := (Array.getElem?_eq_some_iff.1 hot).1
    by_cases htn : t = n
    · subst htn
      have h1 := List.all_eq_true.1 hs i (List.mem_range.2 hi)
      obtain ⟨j, hj, hj2⟩ := List.any_eq_true.1 h1
      simp only [Bool.and_eq_true, decide_eq_true_eq] at hj2
      obtain ⟨oj, hoj, e, he, hb, hon⟩ := Region.waitsFor_spec hj2.2
      have hjle : j ≤ t := by have := List.mem_range.1 hj; omega
      by_cases hjt : j = t
      · subst hjt
        have : oj = ot := Option.some.inj (hoj.symm.trans hot)
        subst this
        have h2 := hall e he hb
        rw [hon, getD_both hun] at h2
        cases h2
      · cases hl : listed.getD j false with
        | true =>
          have h2 := inv.closed j oj hoj hl e he hb
          rw [hon, getD_both hun] at h2
          cases h2
        | false =>
          have hjs : j < listed.size := by rw [inv.size]; omega
          exact ih (t - j) (by omega) j rfl (by omega) (getD_in hjs hl) t (Nat.le_refl _) hr
    · have h1 := List.all_eq_true.1 hc t (List.mem_range.2 htlt)
      simp only [Bool.or_eq_true, decide_eq_true_eq] at h1
      rcases h1 with h1 | h1
      · omega
      · obtain ⟨j, hj, hj2⟩ := List.any_eq_true.1 h1
        rw [Bool.and_eq_true, decide_eq_true_eq] at hj2
        have hjt := List.mem_range.1 hj
        obtain ⟨o', ho', e, he, hb, hon⟩ := Region.waitsFor_spec hj2.2
        have : o' = ot := Option.some.inj (ho'.symm.trans hot)
        subst this
        have h2 := hall e he hb
        rw [hon, getD_both (inv.tail j hj2.1 (by omega))] at h2
        cases h2
theorem any_headR {n g : Nat} {vs : List AV} {rs : Nat → Bool} {Q' : Exit → Act → World → Prop} (hdN : dstsB ops N = true) (hD : discB ops n = true) (hs : Region.sinkB .any ops n = true) (hc : chainW ops n = true) (hn : n < ops.size) (hvl : vs.length = n)
    (hok : ∀ i o v, i < n → ops[i]? = some o → vs[i]? = some v → HOkR P N K0 w0 ops o (foldS S (ops.toList.take i) (vs.take i)) v (rs i))
    (hfree : ∀ i j v d, i < n → j < n → i ≠ j → vs[i]? = some v → rs j = true → dstAt ops j = some d → v.free d = true)
    (hT : ∀ T K nm a w, HInvR rs ops n S vs (canon ops.size n) T → Sim N K0 w0 T K nm a w → wpAny P .any ops Q' g (canon ops.size n) a w) :
    ∀ (f : Nat) (listed : Array Bool) (T : St) (K : Know) (nm : Nm) (a : Act) (w : World), cntU listed n = f → HeadInv .any ops n listed → HInvR rs ops n S vs listed T → Sim N K0 w0 T K nm a w → wpAny P .any ops Q' (f + g) listed a w := by
  intro f
  induction f with
  | zero =>
    intro listed T K nm a w hf inv hi hsim
    have hall := cntU_zero n hf
    have e : listed = canon ops.size n := by
      apply Array.ext
      · simp [canon, inv.size]
      · intro j h1 h2
        by_cases hj : j < n
        · have := hall j hj
          simp [canon, hj]
          simpa [h1] using this
        · have := inv.tail j (by omega) (by rw [← inv.size]; exact h1)
          simp [canon, hj]
          simpa [h1] using this
    subst e
    rw [Nat.zero_add]
    exact hT T K nm a w hi hsim
  | succ f ih =>
    intro listed T K nm a w hf inv hi hsim
    obtain ⟨i0, hi0, hun0, hmin⟩ := cntU_pos n (by omega : cntU listed n ≠ 0)
    rw [show f + 1 + g = (f + g) + 1 by omega]
    have hready0 : i0 ∈ Region.ready .any ops listed := by
      obtain ⟨oi, hoi, hback, _⟩ := discB_spec hD hi0
      refine mem_ready.2 ⟨hun0, oi, hoi, fun e he hb => ?_⟩
      have h1 := hmin e.on (hback e he hb)
      have hlt : e.on < listed.size := by rw [inv.size]; have := hback e he hb; omega
      simpa [hlt] using h1
    refine ⟨fun h0 => (by rw [h0] at hready0; cases hready0), fun i hr => ?_⟩
    have hin : i < n := by
      rcases Nat.lt_or_ge i n with h | h
      · exact h
      · exact absurd hr (tail_waitsW hs hc hn inv _ i0 rfl hi0 hun0 i h)
    obtain ⟨hun, oi', hoi', hall⟩ := mem_ready.1 hr
    obtain ⟨oi, hoi, hback, hdisc⟩ := discB_spec hD hin
    obtain rfl : oi' = oi := Option.some.inj (hoi'.symm.trans hoi)
    have hvi : i < vs.length := by rw [hvl]; exact hin
    have hv : vs[i]? = some vs[i] := List.getElem?_eq_getElem hvi
    have hstep := hok i _ _ hin hoi hv
    have hlisted : ∀ j, listed.getD j false = true → listed.getD j true = true := fun j hj => by
      cases h : listed.getD j true with
      | true => rfl
      | false => rw [getD_both h] at hj; cases hj
    -- the operands are as in the order of the text
    have hget : ∀ t, t ∈ oi'.looksAt ops → T.get t = (foldS S (ops.toList.take i) (vs.take i)).get t := by
      intro t ht
      have htk : ∀ (j : Nat) o, (ops.toList.take i)[j]? = some o → j < i ∧ ops[j]? = some o := fun j o ho => by
        rw [List.getElem?_take] at ho
        split at ho
        · rename_i hj; exact ⟨hj, by simpa using ho⟩
        · cases ho
      by_cases hex : ∃ j, j < n ∧ dstAt ops j = some t
      · obtain ⟨j, hj, hd⟩ := hex
        have huniq : ∀ k, k < n → dstAt ops k = some t → k = j := fun k hk hdk => by
          obtain ⟨_, _, _, hdk'⟩ := discB_spec hD hk
          rcases (hdk' j t hj hd).1 with h | h
          · exact h
          · exact absurd hdk h
        obtain ⟨_, hw⟩ := hdisc j t hj hd
        obtain ⟨hw1, hw2⟩ := hw ht
        rcases Nat.lt_or_ge j i with hji | hji
        · obtain ⟨o', ho', e, he, hb, hon⟩ := Region.waitsFor_spec (hw1 hji)
          obtain rfl : o' = oi' := Option.some.inj (ho'.symm.trans hoi)
          have hlj := hall e he hb
          rw [hon] at hlj
          have hvj : j < vs.length := by omega
          rw [hi.got j t vs[j] hj (hlisted j hlj) hd (List.getElem?_eq_getElem hvj)]
          cases hoj : ops[j]? with
          | none => simp [dstAt, hoj] at hd
          | some oj =>
            symm
            refine foldS_get _ _ S t j oj vs[j] (by rw [List.getElem?_take, if_pos hji]; simpa using hoj) (by rw [List.getElem?_take, if_pos hji]; exact List.getElem?_eq_getElem hvj) (by simpa [dstAt, hoj] using hd) (fun j' o' hjj ho' => ?_)
            obtain ⟨h1, h2⟩ := htk j' o' ho'
            intro hdd
            have := huniq j' (by omega) (by simp [dstAt, h2, hdd])
            omega
        · have hnl : listed.getD j true ≠ true := by
            rcases Nat.lt_or_ge i j with hij | hij
            · intro hl
              obtain ⟨oj, hoj, e, he, hb, hon⟩ := Region.waitsFor_spec (hw2 hij)
              have hjs : j < listed.size := by rw [inv.size]; omega
              have := inv.closed j oj hoj (by simpa [hjs] using hl) e he hb
              rw [hon, getD_both hun] at this
              cases this
            · have : j = i := by omega
              subst this
              rw [hun]; simp
          rw [hi.no t (fun k hk hl hdk => by have := huniq k hk hdk; subst this; exact hnl hl)]
          symm
          refine foldS_get_no _ _ S t (fun k o ho hdk => ?_)
          obtain ⟨h1, h2⟩ := htk k o ho
          have := huniq k (by omega) (by simp [dstAt, h2, hdk])
          omega
      · rw [hi.no t (fun k hk _ hdk => hex ⟨k, hk, hdk⟩)]
        symm
        refine foldS_get_no _ _ S t (fun k o ho hdk => ?_)
        obtain ⟨h1, h2⟩ := htk k o ho
        exact hex ⟨k, by omega, by simp [dstAt, h2, hdk]⟩
    have hnext : ∀ (K' : Know) (nm' : Nm) (a' : Act) (w' : World), Sim N K0 w0 (T.putO oi'.dst vs[i]) K' nm' a' w' → wpAny P .any ops Q' (f + g) (listed.setIfInBounds i true) a' w' := by
      intro K' nm' a' w' hs'
      have hset : ∀ j, j ≠ i → (listed.setIfInBounds i true).getD j true = listed.getD j true := fun j hj => getD_set_ne true (Ne.symm hj)
      refine ih _ _ K' nm' a' w' (by rw [cntU_set hun, if_pos hin]; omega) (inv.set hr hin) ⟨?_, fun j t v hj hl hd hvv => ?_, fun t hno => ?_, fun j d hj hl hp hd => ?_⟩ hs'
      · rw [← hi.mem]; cases oi'.dst <;> rfl
      · by_cases e : j = i
        · subst e
          have hdi : oi'.dst = some t := by simpa [dstAt, hoi] using hd
          rw [hdi, putO_get_eq]
          rw [hv] at hvv
          exact Option.some.inj hvv
        · have hne : oi'.dst ≠ some t := fun h => by
            have := (hdisc j t hj hd).1
            rcases this with h1 | h1
            · exact e h1.symm
            · exact h1 (by simp [dstAt, hoi, h])
          rw [putO_get_ne hne]
          exact hi.got j t v hj (by rw [← hset j e]; exact hl) hd hvv
      · have hilt : i < listed.size := by rw [inv.size]; omega
        have hne : oi'.dst ≠ some t := fun h => hno i hin (by simp [hilt]) (by simp [dstAt, hoi, h])
        rw [putO_get_ne hne]
        refine hi.no t (fun j hj hl => hno j hj ?_)
        by_cases e : j = i
        · subst e; simp [hilt]
        · rw [hset j e]; exact hl
      · have hilt : i < listed.size := by rw [inv.size]; omega
        have e : j ≠ i := fun e => by subst e; simp [hilt] at hl
        rw [hset j e] at hl
        have f1 := hi.fr j d hj hl hp hd
        have hvf := hfree i j vs[i] d hin hj (Ne.symm e) hv hp hd
        cases hdst : oi'.dst with
        | none => exact f1
        | some t =>
          simp only [St.free, Bool.and_eq_true] at f1 ⊢
          refine ⟨⟨?_, f1.1.2⟩, f1.2⟩
          simp only [St.putO, St.put, List.all_cons, hvf, Bool.true_and]
          exact f1.1.1
    have hdO := dstsB_spec (N := N) hdN hoi
    have hgd : ∀ b, GuardIs ops oi' (foldS S (ops.toList.take i) (vs.take i)) b → GuardIs ops oi' T b := fun b hb => by
      unfold GuardIs at *
      cases hg : oi'.guard with
      | none => rw [hg] at hb; exact hb
      | some p =>
        obtain ⟨g', want⟩ := p
        rw [hg] at hb
        obtain ⟨dg, h1, h2⟩ := hb
        refine ⟨dg, h1, ?_⟩
        rw [hget dg (by unfold Oper.looksAt; rw [hg]; simp [h1])]
        exact h2
    unfold wpOp
    simp only [hoi]
    have hgN : ∀ g' want dg, oi'.guard = some (g', want) → ((ops[g']?).bind (·.dst)) = some dg → dg < N := fun g' want dg _ hd => dstsB_at hdN hd
    have hopv : ∀ x ∈ oi'.op.operands.toList, T.opv x = (foldS S (ops.toList.take i) (vs.take i)).opv x := fun x hx => by
      cases x with
      | tmp t => exact hget t (List.mem_append_left _ (List.mem_filterMap.2 ⟨.tmp t, by simpa using hx, rfl⟩))
      | const v => rfl
      | global g => rfl
      | func f => rfl
    rcases hstep with ⟨hrs, ⟨hg, hop⟩ | ⟨hg, hvu⟩⟩ | ⟨hrs, hg, d, e, k, xs, hve, hdd, hdN', hop⟩
    · rw [wanted_of hsim (hgd true hg) hgN]
      simp only [if_true]
      refine .inl (upon_false (Oper.wp_mono ?_ (hop T K nm a w hsim (hi.mem.trans (foldS_boxes _ _ S).symm) hopv)))
      rintro a' w' ⟨c, K', rfl, h1, h2, h3, h4, h5, h6⟩
      exact hnext K' nm _ w' ((hsim.grow h1 h2 h3 h4).putO hdO h5 h6)
    · rw [wanted_of hsim (hgd false hg) hgN]
      simp only [Bool.false_eq_true, if_false]
      refine hnext K nm _ w (hsim.putO hdO ?_ ?_)
      · rw [hvu]; exact rfl
      · rw [hvu]; exact has_val
    · rw [wanted_of hsim (hgd true hg) hgN]
      simp only [if_true]
      have f1 := hi.fr i d hin hun hrs (by simp [dstAt, hoi, hdd])
      refine .inl (upon_false (Oper.wp_mono ?_ (hop T (hi.mem.trans (foldS_boxes _ _ S).symm) hopv f1 K nm a w hsim)))
      rintro a' w' ⟨K', n', S', rfl, hs'⟩
      refine hnext K' n' a' w' ?_
      rw [hdd, hve]
      rw [hve] at hs'
      exact hs'
def headWB (ops : Array Oper) (N n : Nat) : Bool := dstsB ops N && discB ops n && Region.sinkB .any ops n && chainW ops n && decide (n < ops.size)
theorem headWB_of {ops : Array Oper} {n : Nat} (h : headB ops N n = true) : headWB ops N n = true ∧ Region.seqB .any ops (ops.size - n) n (canon ops.size n) = true := by
  simp only [headB, Bool.and_eq_true, decide_eq_true_eq] at h
  obtain ⟨⟨⟨⟨⟨hdN, hD⟩, hs⟩, hc⟩, hn⟩, hseq⟩ := h
  refine ⟨?_, hseq⟩
  simp only [headWB, Bool.and_eq_true, decide_eq_true_eq]
  exact ⟨⟨⟨⟨hdN, hD⟩, hs⟩, chainW_of hc⟩, hn⟩
theorem draw_anyRG {Q1 : St → Prop} {Q' : Exit → Act → World → Prop} {l : List Oper} (n : Nat) (hB : headWB l.toArray N n = true)
    (h : HR P N K0 w0 l.toArray (l.take n) S [] [] fun vs rs S' => freshR l.toArray S vs rs = true ∧ Q1 S') (hnext : ∀ S K nm a w, Q1 S → Sim N K0 w0 S K nm a w → wpAny P .any l.toArray Q' (l.toArray.size - n) (canon l.toArray.size n) a w) {K : Know} {nm : Nm} {a : Act} {w : World} (hsim : Sim N K0 w0 S K nm a w) :
    wpAny P .any l.toArray Q' l.toArray.size (Array.replicate l.toArray.size false) a { w with drawn := w.drawn + 1 } := by
  simp only [headWB, Bool.and_eq_true, decide_eq_true_eq] at hB
  obtain ⟨⟨⟨⟨hdN, hD⟩, hs⟩, hc⟩, hn⟩ := hB
  have hn' : n < l.length := by simpa using hn
  obtain ⟨vs, rs, h1, h1', h2, hfr, h3⟩ := h.elim
  have htl : (l.take n).length = n := by simp; omega
  rw [htl] at h1 h1'
  simp only [List.nil_append] at hfr h3
  have inv0 : HeadInv .any l.toArray n (Array.replicate l.toArray.size false) :=
    ⟨by simp, fun j oj _ hl => (by rw [getD_replicate_false] at hl; cases hl), fun t _ ht => getD_in (by simpa using ht) (getD_replicate_false _ _)⟩
  have H := any_headR (P := P) (S := S) (rs := fun j => (rs[j]?).getD false) (g := l.toArray.size - n) (vs := vs) (Q' := Q') hdN hD hs hc hn h1
    (fun i o v hi ho hv => by
      have hqi : rs[i]? = some rs[i] := List.getElem?_eq_getElem (by omega)
      have := h2 i o v _ (by rw [List.getElem?_take, if_pos hi]; simpa using ho) hv hqi
      rw [List.take_take, Nat.min_eq_left (Nat.le_of_lt hi)] at this
      simp only [hqi, Option.getD_some]
      exact this)
    (fun i j v d hi hj hne hv hq hd => (freshR_at hfr (by omega) (rs_true hq) hd).2 i (by omega) hne v hv)
    (fun T K nm a w hi hsim => by
      have hw : T.wk (foldS S (l.take n) vs) := by
        refine ⟨⟨fun t => .inl (.inl ?_), fun d A hd => ?_⟩, fun d cs' hd => ⟨cs', ?_, rfl, fun i c c' q1 q2 => ?_⟩⟩
        · have hcan : ∀ j, j < n → (canon l.toArray.size n).getD j true = true := fun j hj => by
            have hjl : j < l.length := by omega
            simp [canon, hj, hjl]
          by_cases hex : ∃ j, j < n ∧ dstAt l.toArray j = some t
          · obtain ⟨j, hj, hd⟩ := hex
            have hvj : j < vs.length := by omega
            rw [hi.got j t vs[j] hj (hcan j hj) hd (List.getElem?_eq_getElem hvj)]
            cases hoj : l.toArray[j]? with
            | none => simp [dstAt, hoj] at hd
            | some oj =>
              refine foldS_get _ _ S t j oj vs[j] (by rw [List.getElem?_take, if_pos hj]; simpa using hoj) (List.getElem?_eq_getElem hvj) (by simpa [dstAt, hoj] using hd) (fun j' o' hjj ho' => ?_)
              rw [List.getElem?_take] at ho'
              split at ho'
              · rename_i hj'
                intro hdd
                have ho2 : l.toArray[j']? = some o' := by simpa using ho'
                obtain ⟨_, _, _, hdk'⟩ := discB_spec hD hj'
                rcases (hdk' j t hj hd).1 with h | h
                · omega
                · exact h (by simp [dstAt, ho2, hdd])
              · cases ho'
          · rw [hi.no t (fun k hk _ hdk => hex ⟨k, hk, hdk⟩)]
            refine foldS_get_no _ _ S t (fun k o ho hdk => ?_)
            rw [List.getElem?_take] at ho
            split at ho
            · rename_i hk
              have ho2 : l.toArray[k]? = some o := by simpa using ho
              exact hex ⟨k, hk, by simp [dstAt, ho2, hdk]⟩
            · cases ho
        · rw [St.mem_arrs (foldS_boxes _ _ S)] at hd; rw [St.mem_arrs hi.mem]; exact hd
        · rw [St.mem_boxes (foldS_boxes _ _ S)] at hd; rw [St.mem_boxes hi.mem]; exact hd
        · rw [q1] at q2; injection q2 with q2; exact .inl q2.symm
      have hsim' := hsim.weak hw (fun d c c' q1 q2 => by rw [St.mem_boxes (foldS_boxes _ _ S), ← St.mem_boxes hi.mem] at q1 q2; exact hsim.boxOne d c c' q1 q2)
      exact hnext _ K nm a w h3 hsim')
    n (Array.replicate l.toArray.size false) S K nm a _ (cntU_false _ n (by omega)) inv0 ⟨rfl, fun j t v hj hl => (by rw [getD_in (by simp; omega) (getD_replicate_false _ _)] at hl; cases hl), fun t _ => rfl, fun j d hj _ hq hd => (freshR_at hfr (by omega) (rs_true hq) hd).1⟩ hsim.drew
  rwa [show n + (l.toArray.size - n) = l.toArray.size by omega] at H
theorem tail_seq {Q : St → Prop} {l : List Oper} {n : Nat} (hn : n < l.length) (hseq : Region.seqB .any l.toArray (l.toArray.size - n) n (canon l.toArray.size n) = true) {S : St} {K : Know} {nm : Nm} {a : Act} {w : World} (h : LT P N K0 w0 l.toArray (l.drop n) S Q) (hs : Sim N K0 w0 S K nm a w) :
    wpAny P .any l.toArray (fun e a' w' => e = .normal ∧ ∃ K' n' S', Q S' ∧ Sim N K0 w0 S' K' n' a' w') (l.toArray.size - n) (canon l.toArray.size n) a w := by
  have hdl : (l.drop n).length = l.toArray.size - n := by simp
  have := wpAny_of_seq (md := .any) (ops := l.toArray) (P := P) (l.drop n) n (canon l.toArray.size n) a w (Q' := fun e a' w' => e = .normal ∧ ∃ K' n' S', Q S' ∧ Sim N K0 w0 S' K' n' a' w') (fun j => by simp [List.getElem?_drop]) (by rw [hdl]; exact hseq) (h K nm a w hs)
  rwa [hdl] at this
theorem draw_anyR {Q : St → Prop} {l : List Oper} (n : Nat) (hB : headB l.toArray N n = true)
    (h : HR P N K0 w0 l.toArray (l.take n) S [] [] fun vs rs S' => freshR l.toArray S vs rs = true ∧ LT P N K0 w0 l.toArray (l.drop n) S' Q) {K : Know} {nm : Nm} {a : Act} {w : World} (hsim : Sim N K0 w0 S K nm a w) :
    wpAny P .any l.toArray (fun e a' w' => e = .normal ∧ ∃ K' n' S', Q S' ∧ Sim N K0 w0 S' K' n' a' w') l.toArray.size (Array.replicate l.toArray.size false) a { w with drawn := w.drawn + 1 } := by
  obtain ⟨h1, h2⟩ := headWB_of hB
  have hn : n < l.length := by
    simp only [headWB, Bool.and_eq_true, decide_eq_true_eq] at h1
    simpa using h1.2
  exact draw_anyRG n h1 h (fun S K nm a w hq hs => tail_seq hn h2 hq hs) hsim
theorem any_head2 {n1 n g : Nat} {vs : List AV} {Q' : Exit → Act → World → Prop} (hdN : dstsB ops N = true) (hD : discB ops n = true) (hs : Region.sinkB .any ops n = true) (hc : chainW ops n = true) (hn : n < ops.size) (hvl : vs.length = n)
    (hok : ∀ i o v, n1 ≤ i → i < n → ops[i]? = some o → vs[i]? = some v → HOk P N K0 w0 ops o (foldS S (ops.toList.take i) (vs.take i)) v)
    (hT : ∀ T K nm a w, HInv ops n S vs (canon ops.size n) T → Sim N K0 w0 T K nm a w → wpAny P .any ops Q' g (canon ops.size n) a w) :
    ∀ (f : Nat) (listed : Array Bool) (T : St) (K : Know) (nm : Nm) (a : Act) (w : World), cntU listed n = f → (∀ j, j < n1 → listed.getD j true = true) → HeadInv .any ops n listed → HInv ops n S vs listed T → Sim N K0 w0 T K nm a w → wpAny P .any ops Q' (f + g) listed a w := by
  intro f
  induction f with
  | zero =>
    intro listed T K nm a w hf hfst inv hi hsim
    have hall := cntU_zero n hf
    have e : listed = canon ops.size n := by
      apply Array.ext
      · simp [canon, inv.size]
      · intro j h1 h2
        by_cases hj : j < n
        · have := hall j hj
          simp [canon, hj]
          simpa [h1] using this
        · have := inv.tail j (by omega) (by rw [← inv.size]; exact h1)
          simp [canon, hj]
          simpa [h1] using this
    subst e
    rw [Nat.zero_add]
    exact hT T K nm a w hi hsim
  | succ f ih =>
    intro listed T K nm a w hf hfst inv hi hsim
    obtain ⟨i0, hi0, hun0, hmin⟩ := cntU_pos n (by omega : cntU listed n ≠ 0)
    rw [show f + 1 + g = (f + g) + 1 by omega]
    have hready0 : i0 ∈ Region.ready .any ops listed := by
      obtain ⟨oi, hoi, hback, _⟩ := discB_spec hD hi0
      refine mem_ready.2 ⟨hun0, oi, hoi, fun e he hb => ?_⟩
      have h1 := hmin e.on (hback e he hb)
      have hlt : e.on < listed.size := by rw [inv.size]; have := hback e he hb; omega
      simpa [hlt] using h1
    refine ⟨fun h0 => (by rw [h0] at hready0; cases hready0), fun i hr => ?_⟩
    have hin : i < n := by
      rcases Nat.lt_or_ge i n with h | h
      · exact h
      · exact absurd hr (tail_waitsW hs hc hn inv _ i0 rfl hi0 hun0 i h)
    obtain ⟨hun, oi', hoi', hall⟩ := mem_ready.1 hr
    obtain ⟨oi, hoi, hback, hdisc⟩ := discB_spec hD hin
    obtain rfl : oi' = oi := Option.some.inj (hoi'.symm.trans hoi)
    have hvi : i < vs.length := by rw [hvl]; exact hin
    have hv : vs[i]? = some vs[i] := List.getElem?_eq_getElem hvi
    have hin1 : n1 ≤ i := by
      rcases Nat.lt_or_ge i n1 with h | h
      · have := hfst i h
        rw [hun] at this; cases this
      · exact h
    have hstep := hok i _ _ hin1 hin hoi hv
    have hlisted : ∀ j, listed.getD j false = true → listed.getD j true = true := fun j hj => by
      cases h : listed.getD j true with
      | true => rfl
      | false => rw [getD_both h] at hj; cases hj
    -- the operands are as in the order of the text
    have hget : ∀ t, t ∈ oi'.looksAt ops → T.get t = (foldS S (ops.toList.take i) (vs.take i)).get t := by
      intro t ht
      have htk : ∀ (j : Nat) o, (ops.toList.take i)[j]? = some o → j < i ∧ ops[j]? = some o := fun j o ho => by
        rw [List.getElem?_take] at ho
        split at ho
        · rename_i hj; exact ⟨hj, by simpa using ho⟩
        · cases ho
      by_cases hex : ∃ j, j < n ∧ dstAt ops j = some t
      · obtain ⟨j, hj, hd⟩ := hex
        have huniq : ∀ k, k < n → dstAt ops k = some t → k = j := fun k hk hdk => by
          obtain ⟨_, _, _, hdk'⟩ := discB_spec hD hk
          rcases (hdk' j t hj hd).1 with h | h
          · exact h
          · exact absurd hdk h
        obtain ⟨_, hw⟩ := hdisc j t hj hd
        obtain ⟨hw1, hw2⟩ := hw ht
        rcases Nat.lt_or_ge j i with hji | hji
        · obtain ⟨o', ho', e, he, hb, hon⟩ := Region.waitsFor_spec (hw1 hji)
          obtain rfl : o' = oi' := Option.some.inj (ho'.symm.trans hoi)
          have hlj := hall e he hb
          rw [hon] at hlj
          have hvj : j < vs.length := by omega
          rw [hi.got j t vs[j] hj (hlisted j hlj) hd (List.getElem?_eq_getElem hvj)]
          cases hoj : ops[j]? with
          | none => simp [dstAt, hoj] at hd
          | some oj =>
            symm
            refine foldS_get _ _ S t j oj vs[j] (by rw [List.getElem?_take, if_pos hji]; simpa using hoj) (by rw [List.getElem?_take, if_pos hji]; exact List.getElem?_eq_getElem hvj) (by simpa [dstAt, hoj] using hd) (fun j' o' hjj ho' => ?_)
            obtain ⟨h1, h2⟩ := htk j' o' ho'
            intro hdd
            have := huniq j' (by omega) (by simp [dstAt, h2, hdd])
            omega
        · have hnl : listed.getD j true ≠ true := by
            rcases Nat.lt_or_ge i j with hij | hij
            · intro hl
              obtain ⟨oj, hoj, e, he, hb, hon⟩ := Region.waitsFor_spec (hw2 hij)
              have hjs : j < listed.size := by rw [inv.size]; omega
              have := inv.closed j oj hoj (by simpa [hjs] using hl) e he hb
              rw [hon, getD_both hun] at this
              cases this
            · have : j = i := by omega
              subst this
              rw [hun]; simp
          rw [hi.no t (fun k hk hl hdk => by have := huniq k hk hdk; subst this; exact hnl hl)]
          symm
          refine foldS_get_no _ _ S t (fun k o ho hdk => ?_)
          obtain ⟨h1, h2⟩ := htk k o ho
          have := huniq k (by omega) (by simp [dstAt, h2, hdk])
          omega
      · rw [hi.no t (fun k hk _ hdk => hex ⟨k, hk, hdk⟩)]
        symm
        refine foldS_get_no _ _ S t (fun k o ho hdk => ?_)
        obtain ⟨h1, h2⟩ := htk k o ho
        exact hex ⟨k, by omega, by simp [dstAt, h2, hdk]⟩
    have hnext : ∀ (K' : Know) (nm' : Nm) (a' : Act) (w' : World), Sim N K0 w0 (T.putO oi'.dst vs[i]) K' nm' a' w' → wpAny P .any ops Q' (f + g) (listed.setIfInBounds i true) a' w' := by
      intro K' nm' a' w' hs'
      have hset : ∀ j, j ≠ i → (listed.setIfInBounds i true).getD j true = listed.getD j true := fun j hj => getD_set_ne true (Ne.symm hj)
      refine ih _ _ K' nm' a' w' (by rw [cntU_set hun, if_pos hin]; omega) (fun j hj => by rw [hset j (by omega)]; exact hfst j hj) (inv.set hr hin) ⟨?_, fun j t v hj hl hd hvv => ?_, fun t hno => ?_⟩ hs'
      · rw [← hi.mem]; cases oi'.dst <;> rfl
      · by_cases e : j = i
        · subst e
          have hdi : oi'.dst = some t := by simpa [dstAt, hoi] using hd
          rw [hdi, putO_get_eq]
          rw [hv] at hvv
          exact Option.some.inj hvv
        · have hne : oi'.dst ≠ some t := fun h => by
            have := (hdisc j t hj hd).1
            rcases this with h1 | h1
            · exact e h1.symm
            · exact h1 (by simp [dstAt, hoi, h])
          rw [putO_get_ne hne]
          exact hi.got j t v hj (by rw [← hset j e]; exact hl) hd hvv
      · have hilt : i < listed.size := by rw [inv.size]; omega
        have hne : oi'.dst ≠ some t := fun h => hno i hin (by simp [hilt]) (by simp [dstAt, hoi, h])
        rw [putO_get_ne hne]
        refine hi.no t (fun j hj hl => hno j hj ?_)
        by_cases e : j = i
        · subst e; simp [hilt]
        · rw [hset j e]; exact hl
    have hdO := dstsB_spec (N := N) hdN hoi
    have hgd : ∀ b, GuardIs ops oi' (foldS S (ops.toList.take i) (vs.take i)) b → GuardIs ops oi' T b := fun b hb => by
      unfold GuardIs at *
      cases hg : oi'.guard with
      | none => rw [hg] at hb; exact hb
      | some p =>
        obtain ⟨g', want⟩ := p
        rw [hg] at hb
        obtain ⟨dg, h1, h2⟩ := hb
        refine ⟨dg, h1, ?_⟩
        rw [hget dg (by unfold Oper.looksAt; rw [hg]; simp [h1])]
        exact h2
    unfold wpOp
    simp only [hoi]
    have hgN : ∀ g' want dg, oi'.guard = some (g', want) → ((ops[g']?).bind (·.dst)) = some dg → dg < N := fun g' want dg _ hd => dstsB_at hdN hd
    rcases hstep with ⟨hg, hop⟩ | ⟨hg, hvu⟩
    · rw [wanted_of hsim (hgd true hg) hgN]
      simp only [if_true]
      refine .inl (upon_false (Oper.wp_mono ?_ (hop T K nm a w hsim (hi.mem.trans (foldS_boxes _ _ S).symm) (fun x hx => ?_))))
      · rintro a' w' ⟨c, K', rfl, h1, h2, h3, h4, h5, h6⟩
        exact hnext K' nm _ w' ((hsim.grow h1 h2 h3 h4).putO hdO h5 h6)
      · cases x with
        | tmp t => exact hget t (List.mem_append_left _ (List.mem_filterMap.2 ⟨.tmp t, by simpa using hx, rfl⟩))
        | const v => rfl
        | global g => rfl
        | func f => rfl
    · rw [wanted_of hsim (hgd false hg) hgN]
      simp only [Bool.false_eq_true, if_false]
      refine hnext K nm _ w (hsim.putO hdO ?_ ?_)
      · rw [hvu]; exact rfl
      · rw [hvu]; exact has_val
theorem HOk.congr {S S' : St} {o : Oper} {v : AV} (hg : ∀ t, S'.get t = S.get t) (hm : S'.mem = S.mem) (h : HOk P N K0 w0 ops o S v) : HOk P N K0 w0 ops o S' v := by
  have hop : ∀ x, S'.opv x = S.opv x := fun x => by cases x <;> first | exact hg _ | rfl
  have hgd : ∀ b, GuardIs ops o S b → GuardIs ops o S' b := fun b hb => by
    unfold GuardIs at *
    cases hgg : o.guard with
    | none => rw [hgg] at hb; exact hb
    | some p =>
      obtain ⟨g', want⟩ := p
      rw [hgg] at hb
      obtain ⟨dg, h1, h2⟩ := hb
      exact ⟨dg, h1, by rw [hg]; exact h2⟩
  rcases h with ⟨h1, h2⟩ | ⟨h1, h2⟩
  · exact .inl ⟨hgd _ h1, fun T K n a w hs hT hopT => h2 T K n a w hs (hT.trans hm) fun x hx => (hopT x hx).trans (hop x)⟩
  · exact .inr ⟨hgd _ h1, h2⟩
theorem foldS_congr : ∀ (l : List Oper) (vs : List AV) (S S' : St), (∀ t, S'.get t = S.get t) → S'.mem = S.mem → (∀ t, (foldS S' l vs).get t = (foldS S l vs).get t) ∧ (foldS S' l vs).mem = (foldS S l vs).mem
  | [], _, S, S', h1, h2 => ⟨h1, h2⟩
  | _ :: _, [], S, S', h1, h2 => ⟨h1, h2⟩
  | o :: l, v :: vs, S, S', h1, h2 => by
    rw [foldS, foldS]
    refine foldS_congr l vs _ _ (fun t => ?_) ?_
    · cases o.dst with
      | none => exact h1 t
      | some d => simp only [St.putO]; rw [St.get_put, St.get_put]; split; rfl; exact h1 t
    · cases o.dst <;> exact h2
theorem foldS_self : ∀ (l : List Oper) (S S0 : St), (∀ t, S.get t = S0.get t) → S.mem = S0.mem → (∀ t, (foldS S l (l.map fun o => match o.dst with | some d => S0.get d | none => .dead)).get t = S0.get t) ∧ (foldS S l (l.map fun o => match o.dst with | some d => S0.get d | none => .dead)).mem = S0.mem
  | [], S, S0, h1, h2 => ⟨h1, h2⟩
  | o :: l, S, S0, h1, h2 => by
    simp only [List.map_cons]
    rw [foldS]
    refine foldS_self l _ S0 (fun t => ?_) ?_
    · cases hd : o.dst with
      | none => exact h1 t
      | some d =>
        simp only [St.putO]
        rw [St.get_put]
        split
        · rename_i e; rw [e]
        · exact h1 t
    · cases o.dst <;> exact h2
theorem foldS_app : ∀ (l1 l2 : List Oper) (v1 v2 : List AV) (S : St), v1.length = l1.length → foldS S (l1 ++ l2) (v1 ++ v2) = foldS (foldS S l1 v1) l2 v2
  | [], l2, [], v2, S, _ => rfl
  | [], _, _ :: _, _, _, h => by simp at h
  | _ :: _, _, [], _, _, h => by simp at h
  | o :: l1, l2, v :: v1, v2, S, h => by
    simp only [List.cons_append]
    rw [foldS, foldS]
    exact foldS_app l1 l2 v1 v2 _ (by simpa using h)
/-- From a place in the region on: what lies ahead of it is done. -/
theorem draw_from {Q : St → Prop} {l : List Oper} (m n : Nat) (hmn : m ≤ n) (hB : headB l.toArray N n = true) (h : HT P N K0 w0 l.toArray ((l.take n).drop m) S fun S' => LT P N K0 w0 l.toArray (l.drop n) S' Q) {K : Know} {nm : Nm} {a : Act} {w : World} (hsim : Sim N K0 w0 S K nm a w) :
    wpAny P .any l.toArray (fun e a' w' => e = .normal ∧ ∃ K' n' S', Q S' ∧ Sim N K0 w0 S' K' n' a' w') (l.toArray.size - m) (canon l.toArray.size m) a w := by
  obtain ⟨hBW, hseq⟩ := headWB_of hB
  simp only [headWB, Bool.and_eq_true, decide_eq_true_eq] at hBW
  obtain ⟨⟨⟨⟨hdN, hD⟩, hs⟩, hc⟩, hn⟩ := hBW
  have hn' : n < l.length := by simpa using hn
  obtain ⟨vs2, h1, h2, h3⟩ := h.elim
  have htl : ((l.take n).drop m).length = n - m := by simp; omega
  rw [htl] at h1
  have hv1l : ((l.take m).map fun o => match o.dst with | some d => S.get d | none => AV.dead).length = m := by simp; omega
  obtain ⟨hsg, hsm⟩ := foldS_self (l.take m) S S (fun _ => rfl) rfl
  generalize hv1 : ((l.take m).map fun o => match o.dst with | some d => S.get d | none => AV.dead) = vs1 at hv1l hsg hsm
  have hv1g : ∀ (j : Nat) o d v, l[j]? = some o → o.dst = some d → vs1[j]? = some v → v = S.get d := fun j o d v ho hd hv => by
    rw [← hv1, List.getElem?_map] at hv
    obtain ⟨o', ho', e⟩ := Option.map_eq_some_iff.1 hv
    have hj : j < m := by
      have := (List.getElem?_eq_some_iff.1 ho').1
      simp at this; omega
    rw [List.getElem?_take, if_pos hj] at ho'
    rw [ho] at ho'
    injection ho' with ho'
    subst ho'
    rw [hd] at e
    exact e.symm
  have hcan : ∀ j, j < m → (canon l.toArray.size m).getD j true = true := fun j hj => by
    have hjl : j < l.length := by omega
    simp [canon, hj, hjl]
  have hcan2 : ∀ j, (canon l.toArray.size m).getD j false = true → j < m := fun j hj => by
    by_cases c : j < l.length
    · simpa [canon, c] using hj
    · simp [canon, c] at hj
  have hsplit : ∀ i, m ≤ i → i ≤ n → l.take i = l.take m ++ ((l.take n).drop m).take (i - m) := fun i h1 h2 => by
    rw [← List.drop_take, ← List.take_append_drop m (l.take i)]
    congr 1
    · rw [List.take_take, Nat.min_eq_left h1]
    · rw [List.take_take]
      congr 2
      omega
  have inv0 : HeadInv .any l.toArray n (canon l.toArray.size m) :=
    ⟨by simp [canon], fun j oj hoj hl e he hb => by
      have hjm := hcan2 j hl
      obtain ⟨oi, hoi, hback, _⟩ := discB_spec hD (show j < n by omega)
      obtain rfl : oi = oj := Option.some.inj (hoi.symm.trans hoj)
      have := hback e he hb
      have hel : e.on < l.length := by omega
      simp [canon, hel]; omega, fun t ht htl => by
      have : t < l.length := by simpa using htl
      simp [canon, this]; omega⟩
  have hcnt2 : cntU (canon l.toArray.size m) n = n - m := by
    have : ∀ q, q ≤ n → cntU (canon l.toArray.size m) q = q - m := fun q => by
      induction q with
      | zero => intro _; simp [cntU]
      | succ q ih =>
        intro hq
        have h0 := ih (by omega)
        simp only [cntU]
        have hql : q < l.length := by omega
        by_cases c : q < m
        · have : (canon l.toArray.size m).getD q true = true := hcan q c
          rw [this]
          show cntU (canon l.toArray.size m) q + 0 = _
          omega
        · have : (canon l.toArray.size m).getD q true = false := by simp [canon, hql]; omega
          rw [this]
          show cntU (canon l.toArray.size m) q + 1 = _
          omega
    exact this n (Nat.le_refl _)
  have H := any_head2 (P := P) (S := S) (n1 := m) (g := l.toArray.size - n) (vs := vs1 ++ vs2) (Q' := fun e a' w' => e = .normal ∧ ∃ K' n' S', Q S' ∧ Sim N K0 w0 S' K' n' a' w') hdN hD hs hc hn (by rw [List.length_append, hv1l, h1]; omega)
    (fun i o v hmi hi ho hv => by
      have ho2 : l[i]? = some o := by simpa using ho
      rw [List.getElem?_append_right (by omega), hv1l] at hv
      have hq := h2 (i - m) o v (by rw [List.getElem?_drop, show m + (i - m) = i by omega, List.getElem?_take, if_pos hi]; exact ho2) hv
      have e1 : (vs1 ++ vs2).take i = vs1 ++ vs2.take (i - m) := by rw [List.take_append, hv1l, List.take_of_length_le (by omega)]
      rw [show l.toArray.toList = l from rfl, hsplit i hmi (by omega), e1, foldS_app _ _ _ _ _ (by rw [hv1l]; simp; omega)]
      obtain ⟨c1, c2⟩ := foldS_congr (((l.take n).drop m).take (i - m)) (vs2.take (i - m)) S (foldS S (l.take m) vs1) hsg hsm
      exact hq.congr c1 c2)
    (fun T K nm a w hi hsim => by
      have hallc : ∀ j, j < n → (canon l.toArray.size n).getD j true = true := fun j hj => by
        have hjl : j < l.length := by omega
        simp [canon, hj, hjl]
      have hgetT : ∀ t, T.get t = (foldS S ((l.take n).drop m) vs2).get t := fun t => by
        by_cases hex : ∃ j, j < n ∧ dstAt l.toArray j = some t
        · obtain ⟨j, hj, hd⟩ := hex
          have huniq : ∀ k, k < n → dstAt l.toArray k = some t → k = j := fun k hk hdk => by
            obtain ⟨_, _, _, hdk'⟩ := discB_spec hD hk
            rcases (hdk' j t hj hd).1 with h | h
            · exact h
            · exact absurd hdk h
          obtain ⟨oj, hoj, hdj⟩ : ∃ oj, l[j]? = some oj ∧ oj.dst = some t := by
            unfold dstAt at hd
            cases hoj : l.toArray[j]? with
            | none => rw [hoj] at hd; cases hd
            | some oj => exact ⟨oj, by simpa using hoj, by rw [hoj] at hd; exact hd⟩
          have hvl : (vs1 ++ vs2).length = n := by rw [List.length_append, hv1l, h1]; omega
          have hvj : j < (vs1 ++ vs2).length := by omega
          rw [hi.got j t _ hj (hallc j hj) hd (List.getElem?_eq_getElem hvj)]
          by_cases c : j < m
          · have hv : vs1[j]? = some (vs1 ++ vs2)[j] := by rw [← List.getElem?_append_left (l₂ := vs2) (by omega)]; exact List.getElem?_eq_getElem hvj
            rw [hv1g j oj t _ hoj hdj hv]
            symm
            refine foldS_get_no _ _ S t (fun k o ho hdk => ?_)
            rw [List.getElem?_drop, List.getElem?_take] at ho
            split at ho
            · rename_i hk
              have := huniq (m + k) hk (by simp [dstAt, ho, hdk])
              omega
            · cases ho
          · symm
            refine foldS_get _ _ S t (j - m) oj _ (by rw [List.getElem?_drop, show m + (j - m) = j by omega, List.getElem?_take, if_pos hj]; exact hoj) (by rw [← List.getElem?_eq_getElem hvj, List.getElem?_append_right (by omega), hv1l]) hdj (fun k o hk ho hdk => ?_)
            rw [List.getElem?_drop, List.getElem?_take] at ho
            split at ho
            · rename_i hk2
              have := huniq (m + k) hk2 (by simp [dstAt, ho, hdk])
              omega
            · cases ho
        · rw [hi.no t (fun k hk _ hdk => hex ⟨k, hk, hdk⟩)]
          symm
          refine foldS_get_no _ _ S t (fun k o ho hdk => ?_)
          rw [List.getElem?_drop, List.getElem?_take] at ho
          split at ho
          · rename_i hk
            exact hex ⟨m + k, hk, by simp [dstAt, ho, hdk]⟩
          · cases ho
      have hmem : T.mem = (foldS S ((l.take n).drop m) vs2).mem := hi.mem.trans (foldS_boxes _ _ S).symm
      have hw : T.wk (foldS S ((l.take n).drop m) vs2) := by
        refine ⟨⟨fun t => .inl (.inl (hgetT t).symm), fun d A hd => ?_⟩, fun d cs' hd => ⟨cs', ?_, rfl, fun i c c' q1 q2 => ?_⟩⟩
        · rw [St.mem_arrs hmem]; exact hd
        · rw [St.mem_boxes hmem]; exact hd
        · rw [q1] at q2; injection q2 with q2; exact .inl q2.symm
      have hsim' := hsim.weak hw (fun d c c' q1 q2 => by rw [← St.mem_boxes hmem] at q1 q2; exact hsim.boxOne d c c' q1 q2)
      exact tail_seq hn' hseq h3 hsim')
    (n - m) (canon l.toArray.size m) S K nm a w hcnt2 hcan inv0
    ⟨rfl, fun j t v hj hl hd hv => by
      have hjm : j < m := by
        have hjl : j < l.length := by omega
        simpa [canon, hjl] using hl
      obtain ⟨oj, hoj, hdj⟩ : ∃ oj, l[j]? = some oj ∧ oj.dst = some t := by
        unfold dstAt at hd
        cases hoj : l.toArray[j]? with
        | none => rw [hoj] at hd; cases hd
        | some oj => exact ⟨oj, by simpa using hoj, by rw [hoj] at hd; exact hd⟩
      rw [List.getElem?_append_left (by omega)] at hv
      exact (hv1g j oj t v hoj hdj hv).symm, fun t _ => rfl⟩ hsim
  rwa [show n - m + (l.toArray.size - n) = l.toArray.size - m by omega] at H
/-- One operation in the middle, for which all behind it wait. -/
def MidG (P : Program) (N : Nat) (K0 : Know) (w0 : Bas) (ops : Array Oper) (m : Nat) (S : St) (R : St → Prop) : Prop := ∃ o, ops[m]? = some o ∧ GuardIs ops o S true ∧ OpT P N K0 w0 o S R
theorem canon_set (M n : Nat) : (canon M n).setIfInBounds n true = canon M (n + 1) := by
  apply Array.ext_getElem?
  intro i
  rw [Array.getElem?_setIfInBounds]
  unfold canon
  by_cases c : i < M
  · by_cases e : n = i
    · subst e
      simp [c]
    · rw [if_neg e]
      simp [c]
      omega
  · by_cases e : n = i
    · subst e
      simp [c]
    · rw [if_neg e]
      simp [c]
theorem CT.seqDR3 {QE : Exit → St → Prop} {c2 : Code} {id : Nat} {l : List Oper} {tm : List (Nat × AV)} {bs : List (Nat × List AV)} {ar : List (Nat × Arr)} (m n : Nat) (hm : P.follows .mixedOrders = true) (hB1 : headWB l.toArray N m = true) (hr : Region.ready .any l.toArray (canon l.toArray.size m) = [m]) (hmn : m + 1 ≤ n) (hB : headB l.toArray N n = true)
    (h : HR P N K0 w0 l.toArray (l.take m) ⟨tm, bs, ar⟩ [] [] fun vs rs S' => freshR l.toArray ⟨tm, bs, ar⟩ vs rs = true ∧ MidG P N K0 w0 l.toArray m S' fun S2 => HT P N K0 w0 l.toArray ((l.take n).drop (m + 1)) S2 fun S3 => LT P N K0 w0 l.toArray (l.drop n) S3 fun S'' => CT P N K0 w0 c2 S'' QE) : CT P N K0 w0 ((Code.region id l.toArray true).seq c2) ⟨tm, bs, ar⟩ QE := by
  refine CT.seq ?_
  intro K nm a w hsim
  refine wp_mono (wp_region_any hm (draw_anyRG (Q' := fun e a' w' => e = .normal ∧ ∃ K' n' S', (CT P N K0 w0 c2 S' QE) ∧ Sim N K0 w0 S' K' n' a' w') m hB1 h (fun S K nm a w hq hs => ?_) hsim)) ?_
  · have hml : m < l.length := by
      simp only [headWB, Bool.and_eq_true, decide_eq_true_eq] at hB1
      simpa using hB1.2
    have hdN : dstsB l.toArray N = true := by
      simp only [headWB, Bool.and_eq_true, decide_eq_true_eq] at hB1
      exact hB1.1.1.1.1
    rw [show l.toArray.size - m = (l.toArray.size - (m + 1)) + 1 by simp; omega]
    refine ⟨fun h0 => (by rw [hr] at h0; cases h0), fun i hi => ?_⟩
    rw [hr, List.mem_singleton] at hi
    subst hi
    obtain ⟨o, ho, hg, hop⟩ := hq
    unfold wpOp
    simp only [ho]
    rw [wanted_of hs hg (fun g' want dg _ hd => dstsB_at hdN hd)]
    simp only [if_true]
    refine .inl (upon_false (Oper.wp_mono ?_ (hop K nm a w hs)))
    rintro a' w' ⟨K', n', S2, h2, hs2⟩
    rw [canon_set]
    exact draw_from (i + 1) n hmn hB h2 hs2
  · rintro e a' w' ⟨rfl, K', n', S', h1, h2⟩
    exact ⟨K', n', S', h1, h2⟩
theorem MidG.g {m : Nat} {d : Option Nat} {opn : Op} {ty : TypeId} {pos : String} {aft : Array Edge} {g : Nat} {want : Bool} {dg : Nat} {c : Bool} {R : St → Prop} {tm : List (Nat × AV)} {bs : List (Nat × List AV)} {ar : List (Nat × Arr)} (ho : ops[m]? = some ⟨d, opn, ty, pos, aft, some (g, want)⟩) (h1 : dstAt ops g = some dg) (h2 : getT tm dg = .val (.bool c)) (hc : (c == want) = true)
    (h : OpT P N K0 w0 ⟨d, opn, ty, pos, aft, some (g, want)⟩ ⟨tm, bs, ar⟩ R) : MidG P N K0 w0 ops m ⟨tm, bs, ar⟩ R :=
  ⟨_, ho, ⟨dg, h1, .inl ⟨c, h2, hc.symm⟩⟩, h⟩
theorem CT.seqDR {QE : Exit → St → Prop} {c2 : Code} {id : Nat} {l : List Oper} {tm : List (Nat × AV)} {bs : List (Nat × List AV)} {ar : List (Nat × Arr)} (n : Nat) (hm : P.follows .mixedOrders = true) (hB : headB l.toArray N n = true)
    (h : HR P N K0 w0 l.toArray (l.take n) ⟨tm, bs, ar⟩ [] [] fun vs rs S' => freshR l.toArray ⟨tm, bs, ar⟩ vs rs = true ∧ LT P N K0 w0 l.toArray (l.drop n) S' fun S'' => CT P N K0 w0 c2 S'' QE) : CT P N K0 w0 ((Code.region id l.toArray true).seq c2) ⟨tm, bs, ar⟩ QE := by
  refine CT.seq ?_
  intro K nm a w hsim
  refine wp_mono (wp_region_any hm (draw_anyR n hB h hsim)) ?_
  rintro e a' w' ⟨rfl, K', n', S', h1, h2⟩
  exact ⟨K', n', S', h1, h2⟩
section
variable {l : List Oper} {opn : Op} {ty : TypeId} {pos : String} {aft : Array Edge} {gd : Option (Nat × Bool)} {vs : List AV} {rs : List Bool} {Q : List AV → List Bool → St → Prop} {tm : List (Nat × AV)} {bs : List (Nat × List AV)} {ar : List (Nat × Arr)}
theorem HR.val1 {t : Nat} {v : AV} (h : OpH P N K0 w0 ⟨some t, opn, ty, pos, aft, none⟩ ⟨tm, bs, ar⟩ v) (k : HR P N K0 w0 ops l ⟨(t, v) :: tm, bs, ar⟩ (vs ++ [v]) (rs ++ [false]) Q) : HR P N K0 w0 ops (⟨some t, opn, ty, pos, aft, none⟩ :: l) ⟨tm, bs, ar⟩ vs rs Q :=
  ⟨v, false, .inl ⟨rfl, .inl ⟨rfl, h⟩⟩, k⟩
theorem RowOp.call {f : FuncId} {fn : Func} {c : Code} {args : Array Operand} {ats : Array TypeId} {As : List AV} {d e k r : Nat} {xs : Cells} {g : Option (Nat × Bool)} (hf : P.funcs[f]? = some fn) (hname : (fn.name == "runtime.NumGoroutine") = false) (hb : fn.body = some c)
    (hargs : (args.toList.map fun x => (S.opv x).arg) = As) (hg : Good P f As (.row r e k xs)) (hd : d < N) : RowOp P N K0 w0 ⟨some d, .call { callee := .value (.func f), args := args, argTypes := ats }, ty, pos, aft, g⟩ S (.row d e k xs) := by
  refine ⟨d, e, k, xs, rfl, rfl, hd, fun T hm hop hfr => ?_⟩
  refine OpT.callRow (As := As) hf hname hb ?_ hg hd hfr rfl
  have : (args.toList.map fun x => (T.opv x).arg) = As := by
    rw [← hargs]
    refine List.map_congr_left fun x hx => ?_
    rw [hop x (by simp only [Op.operands, Call.operands]; simp; right; simpa using hx)]
  subst this
  exact Args.of_map _
theorem HR.guard1 {t g : Nat} {want : Bool} {dg : Nat} {c : Bool} {v : AV} (h1 : dstAt ops g = some dg) (h2 : getT tm dg = .val (.bool c)) (hc : (c == want) = true) (h : OpH P N K0 w0 ⟨some t, opn, ty, pos, aft, some (g, want)⟩ ⟨tm, bs, ar⟩ v)
    (k : HR P N K0 w0 ops l ⟨(t, v) :: tm, bs, ar⟩ (vs ++ [v]) (rs ++ [false]) Q) : HR P N K0 w0 ops (⟨some t, opn, ty, pos, aft, some (g, want)⟩ :: l) ⟨tm, bs, ar⟩ vs rs Q :=
  ⟨v, false, .inl ⟨rfl, .inl ⟨⟨dg, h1, .inl ⟨c, h2, hc.symm⟩⟩, h⟩⟩, k⟩
theorem HR.skip1 {t g : Nat} {want : Bool} {dg : Nat} {c : Bool} (h1 : dstAt ops g = some dg) (h2 : getT tm dg = .val (.bool c)) (hc : (c == want) = false)
    (k : HR P N K0 w0 ops l ⟨(t, .val undef) :: tm, bs, ar⟩ (vs ++ [.val undef]) (rs ++ [false]) Q) : HR P N K0 w0 ops (⟨some t, opn, ty, pos, aft, some (g, want)⟩ :: l) ⟨tm, bs, ar⟩ vs rs Q :=
  ⟨.val undef, false, .inl ⟨rfl, .inr ⟨⟨dg, h1, .inl ⟨c, h2, hc.symm⟩⟩, rfl⟩⟩, k⟩
theorem HR.skip2 {t g : Nat} {want : Bool} {dg : Nat} (h1 : dstAt ops g = some dg) (h2 : getT tm dg = .val undef)
    (k : HR P N K0 w0 ops l ⟨(t, .val undef) :: tm, bs, ar⟩ (vs ++ [.val undef]) (rs ++ [false]) Q) : HR P N K0 w0 ops (⟨some t, opn, ty, pos, aft, some (g, want)⟩ :: l) ⟨tm, bs, ar⟩ vs rs Q :=
  ⟨.val undef, false, .inl ⟨rfl, .inr ⟨⟨dg, h1, .inr ⟨h2, rfl⟩⟩, rfl⟩⟩, k⟩
theorem HR.rowG {f : FuncId} {fn : Func} {c : Code} {args : Array Operand} {ats : Array TypeId} {As : List AV} {d e k r : Nat} {xs : Cells} {g : Nat} {want : Bool} {dg : Nat} {b : Bool} (h1 : dstAt ops g = some dg) (h2 : getT tm dg = .val (.bool b)) (hc : (b == want) = true)
    (hf : P.funcs[f]? = some fn) (hname : (fn.name == "runtime.NumGoroutine") = false) (hb : fn.body = some c)
    (hargs : (args.toList.map fun x => (St.opv ⟨tm, bs, ar⟩ x).arg) = As) (hg : Good P f As (.row r e k xs)) (hd : d < N)
    (kk : HR P N K0 w0 ops l ⟨(d, .row d e k xs) :: tm, bs, ar⟩ (vs ++ [.row d e k xs]) (rs ++ [true]) Q) :
    HR P N K0 w0 ops (⟨some d, .call { callee := .value (.func f), args := args, argTypes := ats }, ty, pos, aft, some (g, want)⟩ :: l) ⟨tm, bs, ar⟩ vs rs Q :=
  ⟨.row d e k xs, true, .inr ⟨rfl, ⟨dg, h1, .inl ⟨b, h2, hc.symm⟩⟩, RowOp.call hf hname hb hargs hg hd⟩, kk⟩
/-- A guarded operation of the tail that does not give a value alone. -/
theorem LT.guardT {o : Option Nat} {g : Nat} {want : Bool} {dg : Nat} {c : Bool} {Q : St → Prop} (h1 : dstAt ops g = some dg) (h2 : getT tm dg = .val (.bool c)) (hc : (c == want) = true) (hdg : dg < N)
    (h : OpT P N K0 w0 ⟨o, opn, ty, pos, aft, some (g, want)⟩ ⟨tm, bs, ar⟩ fun S' => LT P N K0 w0 ops l S' Q) : LT P N K0 w0 ops (⟨o, opn, ty, pos, aft, some (g, want)⟩ :: l) ⟨tm, bs, ar⟩ Q :=
  LT.guard rfl h1 hdg h2 hc h
theorem HR.done (h : Q vs rs ⟨tm, bs, ar⟩) : HR P N K0 w0 ops [] ⟨tm, bs, ar⟩ vs rs Q := h
end
end
end Go.Proofs.Ytjmnnkhdadoehaa
