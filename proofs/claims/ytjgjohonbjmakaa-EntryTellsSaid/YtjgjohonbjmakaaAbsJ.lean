/- Regions that draw their order: the head in the order of the text, then the tail. -/
import Derived.Test.YtjgjohonbjmakaaAbsI
namespace Go.Proofs.Ytjgjohonbjmakaa
set_option linter.unusedSimpArgs false
set_option linter.unusedVariables false
open Go Go.RowKit Go.Shelf

def dstAt (ops : Array Oper) (j : Nat) : Option Nat := (ops[j]?).bind (·.dst)
def discB (ops : Array Oper) (n : Nat) : Bool :=
  (List.range n).all fun i => match ops[i]? with
    | none => false
    | some oi => (oi.after.all fun e => !Region.binds .any e || decide (e.on < i)) &&
      ((List.range n).all fun j => (match dstAt ops j with
        | none => true
        | some dj => (i == j || dstAt ops i != some dj) && (!(oi.looksAt ops).contains dj || (if j < i then Region.waitsFor .any ops i j else i == j || Region.waitsFor .any ops j i))))
theorem discB_spec {ops : Array Oper} {n : Nat} (h : discB ops n = true) {i : Nat} (hi : i < n) : ∃ oi, ops[i]? = some oi ∧ (∀ e ∈ oi.after, Region.binds .any e = true → e.on < i) ∧
    ∀ j dj, j < n → dstAt ops j = some dj → (i = j ∨ dstAt ops i ≠ some dj) ∧ (dj ∈ oi.looksAt ops → (j < i → Region.waitsFor .any ops i j = true) ∧ (i < j → Region.waitsFor .any ops j i = true)) := by
  have h1 := List.all_eq_true.1 h i (List.mem_range.2 hi)
  split at h1
  · cases h1
  · rename_i oi hoi
    simp only [Bool.and_eq_true] at h1
    refine ⟨oi, hoi, fun e he hb => ?_, fun j dj hj hd => ?_⟩
    · have := (Array.all_eq_true_iff_forall_mem.1 h1.1) e he
      simp [hb] at this
      exact this
    · have h2 := List.all_eq_true.1 h1.2 j (List.mem_range.2 hj)
      simp only [hd, Bool.and_eq_true, Bool.or_eq_true, beq_iff_eq, bne_iff_ne, ne_eq, Bool.not_eq_true'] at h2
      refine ⟨h2.1, fun hm => ⟨fun hlt => ?_, fun hlt => ?_⟩⟩
      · rcases h2.2 with h3 | h3
        · simp at h3; exact absurd hm h3
        · rw [if_pos hlt] at h3; exact h3
      · rcases h2.2 with h3 | h3
        · simp at h3; exact absurd hm h3
        · rw [if_neg (by omega)] at h3
          simp only [Bool.or_eq_true, beq_iff_eq] at h3
          rcases h3 with h3 | h3
          · omega
          · exact h3
/-- How many of the first n have not come up. -/
def cntU (listed : Array Bool) : Nat → Nat
  | 0 => 0
  | n + 1 => cntU listed n + cond (listed.getD n true) 0 1
theorem cntU_set {listed : Array Bool} {i : Nat} (hi : listed.getD i true = false) : ∀ n, cntU (listed.setIfInBounds i true) n = if i < n then cntU listed n - 1 else cntU listed n := by
  have hil : i < listed.size := by
    rcases Nat.lt_or_ge i listed.size with h | h
    · exact h
    · simp [Array.getElem?_eq_none h] at hi
  intro n
  induction n with
  | zero => simp [cntU]
  | succ n ih =>
    have hge : ∀ m, i < m → 1 ≤ cntU listed m := by
      intro m hm
      induction m with
      | zero => omega
      | succ m ihm =>
        simp only [cntU]
        by_cases e : i = m
        · subst e; rw [hi]; simp
        · have := ihm (by omega); omega
    simp only [cntU]
    rw [ih]
    by_cases e : i = n
    · subst e
      rw [if_neg (Nat.lt_irrefl _), if_pos (Nat.lt_succ_self _), hi]
      have : (listed.setIfInBounds i true).getD i true = true := by simp [hil]
      rw [this]; simp
    · rw [getD_set_ne true e]
      by_cases h : i < n
      · rw [if_pos h, if_pos (by omega)]
        have := hge n h
        omega
      · rw [if_neg h, if_neg (by omega)]
theorem cntU_zero {listed : Array Bool} : ∀ n, cntU listed n = 0 → ∀ i, i < n → listed.getD i true = true
  | 0, _, i, hi => by omega
  | n + 1, h, i, hi => by
    simp only [cntU] at h
    by_cases e : i = n
    · subst e
      cases hl : listed.getD i true with
      | true => rfl
      | false => rw [hl] at h; simp at h
    · exact cntU_zero n (by omega) i (by omega)
theorem cntU_pos {listed : Array Bool} : ∀ n, cntU listed n ≠ 0 → ∃ i, i < n ∧ listed.getD i true = false ∧ ∀ j, j < i → listed.getD j true = true
  | 0, h => absurd rfl h
  | n + 1, h => by
    by_cases e : cntU listed n = 0
    · simp only [cntU, e] at h
      refine ⟨n, Nat.lt_succ_self _, ?_, cntU_zero n e⟩
      cases hl : listed.getD n true with
      | false => rfl
      | true => rw [hl] at h; simp at h
    · obtain ⟨i, h1, h2⟩ := cntU_pos n e
      exact ⟨i, by omega, h2⟩

section
variable {P : Program} {N : Nat} {K0 : Know} {w0 : World} {S : St} {ops : Array Oper}
/-- What one operation of the head does. -/
def HOk (P : Program) (N : Nat) (K0 : Know) (w0 : World) (ops : Array Oper) (o : Oper) (S : St) (v : AV) : Prop := (GuardIs ops o S true ∧ OpH P N K0 w0 o S v) ∨ (GuardIs ops o S false ∧ v = .val undef)
/-- The head, in the order of the text. -/
def HT (P : Program) (N : Nat) (K0 : Know) (w0 : World) (ops : Array Oper) : List Oper → St → (St → Prop) → Prop
  | [], S, Q => Q S
  | o :: l, S, Q => ∃ v, HOk P N K0 w0 ops o S v ∧ HT P N K0 w0 ops l (S.putO o.dst v) Q
def foldS : St → List Oper → List AV → St
  | S, o :: l, v :: vs => foldS (S.putO o.dst v) l vs
  | S, _, _ => S
theorem HT.elim : ∀ {l : List Oper} {S : St} {Q : St → Prop}, HT P N K0 w0 ops l S Q → ∃ vs : List AV, vs.length = l.length ∧ (∀ (i : Nat) o v, l[i]? = some o → vs[i]? = some v → HOk P N K0 w0 ops o (foldS S (l.take i) (vs.take i)) v) ∧ Q (foldS S l vs)
  | [], S, Q, h => ⟨[], rfl, fun i o v h => by simp at h, h⟩
  | o :: l, S, Q, ⟨v, h1, h2⟩ => by
    obtain ⟨vs, h3, h4, h5⟩ := HT.elim h2
    refine ⟨v :: vs, by simp [h3], fun i o' v' ho hv => ?_, h5⟩
    cases i with
    | zero => simp at ho hv; subst ho hv; exact h1
    | succ i => exact h4 i o' v' (by simpa using ho) (by simpa using hv)
theorem foldS_boxes : ∀ (l : List Oper) (vs : List AV) (S : St), (foldS S l vs).boxes = S.boxes
  | [], _, _ => rfl
  | _ :: _, [], _ => rfl
  | o :: l, v :: vs, S => by
    rw [foldS, foldS_boxes l vs]
    cases o.dst <;> rfl
theorem putO_get_ne {d : Option Nat} {v : AV} {t : Nat} (h : d ≠ some t) : (S.putO d v).get t = S.get t := by
  cases d with
  | none => rfl
  | some d => simp only [St.putO]; rw [St.get_put, if_neg (fun e => h (by rw [e]))]
theorem putO_get_eq {v : AV} {t : Nat} : (S.putO (some t) v).get t = v := by simp only [St.putO]; rw [St.get_put, if_pos rfl]
theorem foldS_get_no : ∀ (l : List Oper) (vs : List AV) (S : St) (t : Nat), (∀ (j : Nat) o, l[j]? = some o → o.dst ≠ some t) → (foldS S l vs).get t = S.get t
  | [], _, _, _, _ => rfl
  | _ :: _, [], _, _, _ => rfl
  | o :: l, v :: vs, S, t, h => by
    rw [foldS, foldS_get_no l vs _ t (fun j o' ho => h (j + 1) o' (by simpa using ho)), putO_get_ne (h 0 o rfl)]
theorem foldS_get : ∀ (l : List Oper) (vs : List AV) (S : St) (t j : Nat) (o : Oper) (v : AV), l[j]? = some o → vs[j]? = some v → o.dst = some t → (∀ (j' : Nat) o', j < j' → l[j']? = some o' → o'.dst ≠ some t) → (foldS S l vs).get t = v
  | [], _, _, _, _, _, _, h, _, _, _ => by simp at h
  | _ :: _, [], _, _, _, _, _, _, h, _, _ => by simp at h
  | o :: l, v :: vs, S, t, 0, o', v', h1, h2, h3, h4 => by
    simp at h1 h2
    subst h1 h2
    rw [foldS, foldS_get_no l vs _ t (fun j o' ho => h4 (j + 1) o' (by omega) (by simpa using ho)), h3, putO_get_eq]
  | o :: l, v :: vs, S, t, j + 1, o', v', h1, h2, h3, h4 => by
    rw [foldS]
    exact foldS_get l vs _ t j o' v' (by simpa using h1) (by simpa using h2) h3 (fun j' o'' hj ho => h4 (j' + 1) o'' (by omega) (by simpa using ho))
def canon (m n : Nat) : Array Bool := (Array.range m).map fun j => decide (j < n)
structure HInv (ops : Array Oper) (n : Nat) (S : St) (vs : List AV) (listed : Array Bool) (T : St) : Prop where
  boxes : T.boxes = S.boxes
  got : ∀ j t v, j < n → listed.getD j true = true → dstAt ops j = some t → vs[j]? = some v → T.get t = v
  no : ∀ t, (∀ j, j < n → listed.getD j true = true → dstAt ops j ≠ some t) → T.get t = S.get t
def dstsB (ops : Array Oper) (N : Nat) : Bool := ops.all fun o => match o.dst with | some d => decide (d < N) | none => true
theorem dstsB_spec (h : dstsB ops N = true) {i : Nat} {o : Oper} (ho : ops[i]? = some o) : ∀ t, o.dst = some t → t < N := fun t ht => by
  have := (Array.all_eq_true_iff_forall_mem.1 h) o (Array.mem_of_getElem? ho)
  rw [ht] at this
  simpa using this
theorem dstsB_at (h : dstsB ops N = true) {j d : Nat} (hd : dstAt ops j = some d) : d < N := by
  unfold dstAt at hd
  cases ho : ops[j]? with
  | none => rw [ho] at hd; cases hd
  | some o => rw [ho] at hd; exact dstsB_spec h ho d hd
theorem any_head {n g : Nat} {vs : List AV} {Q' : Exit → Act → World → Prop} (hdN : dstsB ops N = true) (hD : discB ops n = true) (hs : Region.sinkB .any ops n = true) (hc : Region.chainB .any ops n = true) (hn : n < ops.size) (hvl : vs.length = n)
    (hok : ∀ i o v, i < n → ops[i]? = some o → vs[i]? = some v → HOk P N K0 w0 ops o (foldS S (ops.toList.take i) (vs.take i)) v)
    (hT : ∀ T K nm a w, HInv ops n S vs (canon ops.size n) T → Sim N K0 w0 T K nm a w → wpAny P .any ops Q' g (canon ops.size n) a w) :
    ∀ (f : Nat) (listed : Array Bool) (T : St) (K : Know) (nm : Nm) (a : Act) (w : World), cntU listed n = f → HeadInv .any ops n listed → HInv ops n S vs listed T → Sim N K0 w0 T K nm a w → wpAny P .any ops Q' (f + g) listed a w := by
  intro f
  induction f with
  | zero =>
    intro listed T K nm a w hf inv hi hsim
    have hall := cntU_zero n hf
    have e : listed = canon ops.size n := by
      apply Array.ext
      · simp [canon, inv.size]
      · intro j h1 h2
        by_cases hj : j < n
        · have := hall j hj
          simp [canon, hj]
          simpa [h1] using this
        · have := inv.tail j (by omega) (by rw [← inv.size]; exact h1)
          simp [canon, hj]
          simpa [h1] using this
    subst e
    rw [Nat.zero_add]
    exact hT T K nm a w hi hsim
  | succ f ih =>
    intro listed T K nm a w hf inv hi hsim
    obtain ⟨i0, hi0, hun0, hmin⟩ := cntU_pos n (by omega : cntU listed n ≠ 0)
    rw [show f + 1 + g = (f + g) + 1 by omega]
    have hready0 : i0 ∈ Region.ready .any ops listed := by
      obtain ⟨oi, hoi, hback, _⟩ := discB_spec hD hi0
      refine mem_ready.2 ⟨hun0, oi, hoi, fun e he hb => ?_⟩
      have h1 := hmin e.on (hback e he hb)
      have hlt : e.on < listed.size := by rw [inv.size]; have := hback e he hb; omega
      simpa [hlt] using h1
    refine ⟨fun h0 => (by rw [h0] at hready0; cases hready0), fun i hr => ?_⟩
    have hin : i < n := by
      rcases Nat.lt_or_ge i n with h | h
      · exact h
      · exact absurd hr (tail_waits hs hc hn inv _ i0 rfl hi0 hun0 i h)
    obtain ⟨hun, oi', hoi', hall⟩ := mem_ready.1 hr
    obtain ⟨oi, hoi, hback, hdisc⟩ := discB_spec hD hin
    obtain rfl : oi' = oi := Option.some.inj (hoi'.symm.trans hoi)
    have hvi : i < vs.length := by rw [hvl]; exact hin
    have hv : vs[i]? = some vs[i] := List.getElem?_eq_getElem hvi
    have hstep := hok i _ _ hin hoi hv
    have hlisted : ∀ j, listed.getD j false = true → listed.getD j true = true := fun j hj => by
      cases h : listed.getD j true with
      | true => rfl
      | false => rw [getD_both h] at hj; cases hj
    -- the operands are as in the order of the text
    have hget : ∀ t, t ∈ oi'.looksAt ops → T.get t = (foldS S (ops.toList.take i) (vs.take i)).get t := by
      intro t ht
      have htk : ∀ (j : Nat) o, (ops.toList.take i)[j]? = some o → j < i ∧ ops[j]? = some o := fun j o ho => by
        rw [List.getElem?_take] at ho
        split at ho
        · rename_i hj; exact ⟨hj, by simpa using ho⟩
        · cases ho
      by_cases hex : ∃ j, j < n ∧ dstAt ops j = some t
      · obtain ⟨j, hj, hd⟩ := hex
        have huniq : ∀ k, k < n → dstAt ops k = some t → k = j := fun k hk hdk => by
          obtain ⟨_, _, _, hdk'⟩ := discB_spec hD hk
          rcases (hdk' j t hj hd).1 with h | h
          · exact h
          · exact absurd hdk h
        obtain ⟨_, hw⟩ := hdisc j t hj hd
        obtain ⟨hw1, hw2⟩ := hw ht
        rcases Nat.lt_or_ge j i with hji | hji
        · obtain ⟨o', ho', e, he, hb, hon⟩ := Region.waitsFor_spec (hw1 hji)
          obtain rfl : o' = oi' := Option.some.inj (ho'.symm.trans hoi)
          have hlj := hall e he hb
          rw [hon] at hlj
          have hvj : j < vs.length := by omega
          rw [hi.got j t vs[j] hj (hlisted j hlj) hd (List.getElem?_eq_getElem hvj)]
          cases hoj : ops[j]? with
          | none => simp [dstAt, hoj] at hd
          | some oj =>
            symm
            refine foldS_get _ _ S t j oj vs[j] (by rw [List.getElem?_take, if_pos hji]; simpa using hoj) (by rw [List.getElem?_take, if_pos hji]; exact List.getElem?_eq_getElem hvj) (by simpa [dstAt, hoj] using hd) (fun j' o' hjj ho' => ?_)
            obtain ⟨h1, h2⟩ := htk j' o' ho'
            intro hdd
            have := huniq j' (by omega) (by simp [dstAt, h2, hdd])
            omega
        · have hnl : listed.getD j true ≠ true := by
            rcases Nat.lt_or_ge i j with hij | hij
            · intro hl
              obtain ⟨oj, hoj, e, he, hb, hon⟩ := Region.waitsFor_spec (hw2 hij)
              have hjs : j < listed.size := by rw [inv.size]; omega
              have := inv.closed j oj hoj (by simpa [hjs] using hl) e he hb
              rw [hon, getD_both hun] at this
              cases this
            · have : j = i := by omega
              subst this
              rw [hun]; simp
          rw [hi.no t (fun k hk hl hdk => by have := huniq k hk hdk; subst this; exact hnl hl)]
          symm
          refine foldS_get_no _ _ S t (fun k o ho hdk => ?_)
          obtain ⟨h1, h2⟩ := htk k o ho
          have := huniq k (by omega) (by simp [dstAt, h2, hdk])
          omega
      · rw [hi.no t (fun k hk _ hdk => hex ⟨k, hk, hdk⟩)]
        symm
        refine foldS_get_no _ _ S t (fun k o ho hdk => ?_)
        obtain ⟨h1, h2⟩ := htk k o ho
        exact hex ⟨k, by omega, by simp [dstAt, h2, hdk]⟩
    have hnext : ∀ (K' : Know) (nm' : Nm) (a' : Act) (w' : World), Sim N K0 w0 (T.putO oi'.dst vs[i]) K' nm' a' w' → wpAny P .any ops Q' (f + g) (listed.setIfInBounds i true) a' w' := by
      intro K' nm' a' w' hs'
      have hset : ∀ j, j ≠ i → (listed.setIfInBounds i true).getD j true = listed.getD j true := fun j hj => getD_set_ne true (Ne.symm hj)
      refine ih _ _ K' nm' a' w' (by rw [cntU_set hun, if_pos hin]; omega) (inv.set hr hin) ⟨?_, fun j t v hj hl hd hvv => ?_, fun t hno => ?_⟩ hs'
      · rw [← hi.boxes]; cases oi'.dst <;> rfl
      · by_cases e : j = i
        · subst e
          have hdi : oi'.dst = some t := by simpa [dstAt, hoi] using hd
          rw [hdi, putO_get_eq]
          rw [hv] at hvv
          exact Option.some.inj hvv
        · have hne : oi'.dst ≠ some t := fun h => by
            have := (hdisc j t hj hd).1
            rcases this with h1 | h1
            · exact e h1.symm
            · exact h1 (by simp [dstAt, hoi, h])
          rw [putO_get_ne hne]
          exact hi.got j t v hj (by rw [← hset j e]; exact hl) hd hvv
      · have hilt : i < listed.size := by rw [inv.size]; omega
        have hne : oi'.dst ≠ some t := fun h => hno i hin (by simp [hilt]) (by simp [dstAt, hoi, h])
        rw [putO_get_ne hne]
        refine hi.no t (fun j hj hl => hno j hj ?_)
        by_cases e : j = i
        · subst e; simp [hilt]
        · rw [hset j e]; exact hl
    have hdO := dstsB_spec (N := N) hdN hoi
    have hgd : ∀ b, GuardIs ops oi' (foldS S (ops.toList.take i) (vs.take i)) b → GuardIs ops oi' T b := fun b hb => by
      unfold GuardIs at *
      cases hg : oi'.guard with
      | none => rw [hg] at hb; exact hb
      | some p =>
        obtain ⟨g', want⟩ := p
        rw [hg] at hb
        obtain ⟨dg, h1, h2⟩ := hb
        refine ⟨dg, h1, ?_⟩
        rw [hget dg (by unfold Oper.looksAt; rw [hg]; simp [h1])]
        exact h2
    unfold wpOp
    simp only [hoi]
    have hgN : ∀ g' want dg, oi'.guard = some (g', want) → ((ops[g']?).bind (·.dst)) = some dg → dg < N := fun g' want dg _ hd => dstsB_at hdN hd
    rcases hstep with ⟨hg, hop⟩ | ⟨hg, hvu⟩
    · rw [wanted_of hsim (hgd true hg) hgN]
      simp only [if_true]
      refine .inl (upon_false (Oper.wp_mono ?_ (hop T K nm a w hsim (hi.boxes.trans (foldS_boxes _ _ S).symm) (fun x hx => ?_))))
      · rintro a' w' ⟨c, K', rfl, h1, h2, h3, h4, h5, h6⟩
        exact hnext K' nm _ w' ((hsim.grow h1 h2 h3 h4).putO hdO h5 h6)
      · cases x with
        | tmp t => exact hget t (List.mem_append_left _ (List.mem_filterMap.2 ⟨.tmp t, by simpa using hx, rfl⟩))
        | const v => rfl
        | global g => rfl
        | func f => rfl
    · rw [wanted_of hsim (hgd false hg) hgN]
      simp only [Bool.false_eq_true, if_false]
      refine hnext K nm _ w (hsim.putO hdO ?_ ?_)
      · rw [hvu]; exact rfl
      · rw [hvu]; exact has_val
theorem upon_mono {o : Oper} {a : Act} {next next' : Act → World → Prop} {Q Q' : Exit → Act → World → Prop} {r : Result Next} (hn : ∀ a w, next a w → next' a w) (hq : ∀ e a w, Q e a w → Q' e a w) (h : o.upon P a next Q r) : o.upon P a next' Q' r := by
  cases r with
  | ok n w' =>
    cases n <;> simp only [Oper.upon] at h ⊢
    case enter f args =>
      refine Calls.mono h fun e w'' he => ?_
      cases e with
      | returned v => exact hn _ _ he
      | panicked c => exact hq _ _ _ he
      | outgrown => obtain ⟨a2, w2, hf⟩ := he; exact ⟨a2, w2, hq _ _ _ hf⟩
    case row row args => exact Rows.mono h fun v w'' he => hn _ _ he
    all_goals exact hn _ _ h
  | halt x w' => cases x <;> simp only [Oper.upon] at h ⊢ <;> exact hq _ _ _ h
theorem wpList_mono_ {Q Q' : Exit → Act → World → Prop} (hq : ∀ e a w, Q e a w → Q' e a w) : ∀ (l : List Oper) (a : Act) (w : World), wpList P ops Q l a w → wpList P ops Q' l a w
  | [], a, w, h => hq _ _ _ h
  | o :: l, a, w, h => by
    simp only [wpList] at h ⊢
    split
    · rename_i hw
      rw [if_pos hw] at h
      rcases h with h | ⟨h1, a2, w2, h2⟩
      · exact .inl (upon_mono (fun a w => wpList_mono_ hq l a w) hq h)
      · exact .inr ⟨h1, a2, w2, hq _ _ _ h2⟩
    · rename_i hw
      rw [if_neg hw] at h
      exact wpList_mono_ hq l _ _ h
def headB (ops : Array Oper) (N n : Nat) : Bool :=
  dstsB ops N && discB ops n && Region.sinkB .any ops n && Region.chainB .any ops n && decide (n < ops.size) && Region.seqB .any ops (ops.size - n) n (canon ops.size n)
theorem cntU_false (m : Nat) : ∀ n, n ≤ m → cntU (Array.replicate m false) n = n
  | 0, _ => rfl
  | n + 1, h => by
    simp only [cntU]
    rw [cntU_false m n (by omega)]
    have : (Array.replicate m false).getD n true = false := getD_in (by simp; omega) (getD_replicate_false _ _)
    rw [this]; rfl
theorem Sim.drew {K : Know} {n : Nm} {a : Act} {w : World} (h : Sim N K0 w0 S K n a w) : Sim N K0 w0 S K n a { w with drawn := w.drawn + 1 } :=
  h.grow (K' := K) ⟨rfl, rfl, rfl, Nat.le_refl _, fun _ _ => rfl⟩ (Know.le_refl K) h.ok (fun _ _ _ h _ => h)
/-- A region that draws its order. -/
theorem CT.draw {QE : Exit → St → Prop} {id : Nat} {l : List Oper} (n : Nat) (hm : P.follows .mixedOrders = true) (hB : headB l.toArray N n = true)
    (h : HT P N K0 w0 l.toArray (l.take n) S fun S' => LT P N K0 w0 l.toArray (l.drop n) S' fun S'' => QE .normal S'') : CT P N K0 w0 (.region id l.toArray true) S QE := by
  simp only [headB, Bool.and_eq_true, decide_eq_true_eq] at hB
  obtain ⟨⟨⟨⟨⟨hdN, hD⟩, hs⟩, hc⟩, hn⟩, hseq⟩ := hB
  have hn' : n < l.length := by simpa using hn
  obtain ⟨vs, h1, h2, h3⟩ := h.elim
  have htl : (l.take n).length = n := by simp; omega
  rw [htl] at h1
  intro K nm a w hsim
  have inv0 : HeadInv .any l.toArray n (Array.replicate l.toArray.size false) :=
    ⟨by simp, fun j oj _ hl => (by rw [getD_replicate_false] at hl; cases hl), fun t _ ht => getD_in (by simpa using ht) (getD_replicate_false _ _)⟩
  refine wp_region_any hm ?_
  have H := any_head (P := P) (S := S) (g := l.toArray.size - n) (vs := vs) (Q' := fun e a' w' => ∃ K' n' S', QE e S' ∧ Sim N K0 w0 S' K' n' a' w') hdN hD hs hc hn h1
    (fun i o v hi ho hv => by
      have := h2 i o v (by rw [List.getElem?_take, if_pos hi]; simpa using ho) hv
      rwa [List.take_take, Nat.min_eq_left (Nat.le_of_lt hi)] at this)
    (fun T K nm a w hi hsim => by
      have hw : T.wk (foldS S (l.take n) vs) := by
        refine ⟨fun t => .inl (.inl ?_), fun d cs' hd => ⟨cs', ?_, rfl, fun i c c' q1 q2 => ?_⟩⟩
        · have hcan : ∀ j, j < n → (canon l.toArray.size n).getD j true = true := fun j hj => by
            have hjl : j < l.length := by omega
            simp [canon, hj, hjl]
          by_cases hex : ∃ j, j < n ∧ dstAt l.toArray j = some t
          · obtain ⟨j, hj, hd⟩ := hex
            have hvj : j < vs.length := by omega
            rw [hi.got j t vs[j] hj (hcan j hj) hd (List.getElem?_eq_getElem hvj)]
            cases hoj : l.toArray[j]? with
            | none => simp [dstAt, hoj] at hd
            | some oj =>
              refine foldS_get _ _ S t j oj vs[j] (by rw [List.getElem?_take, if_pos hj]; simpa using hoj) (List.getElem?_eq_getElem hvj) (by simpa [dstAt, hoj] using hd) (fun j' o' hjj ho' => ?_)
              rw [List.getElem?_take] at ho'
              split at ho'
              · rename_i hj'
                intro hdd
                have ho2 : l.toArray[j']? = some o' := by simpa using ho'
                obtain ⟨_, _, _, hdk'⟩ := discB_spec hD hj'
                rcases (hdk' j t hj hd).1 with h | h
                · omega
                · exact h (by simp [dstAt, ho2, hdd])
              · cases ho'
          · rw [hi.no t (fun k hk _ hdk => hex ⟨k, hk, hdk⟩)]
            refine foldS_get_no _ _ S t (fun k o ho hdk => ?_)
            rw [List.getElem?_take] at ho
            split at ho
            · rename_i hk
              have ho2 : l.toArray[k]? = some o := by simpa using ho
              exact hex ⟨k, hk, by simp [dstAt, ho2, hdk]⟩
            · cases ho
        · rw [foldS_boxes] at hd; rw [hi.boxes]; exact hd
        · rw [q1] at q2; injection q2 with q2; exact .inl q2.symm
      have hsim' := hsim.weak hw (fun d c c' q1 q2 => by rw [foldS_boxes, ← hi.boxes] at q1 q2; exact hsim.boxOne d c c' q1 q2)
      have hdl : (l.drop n).length = l.toArray.size - n := by simp
      have := wpAny_of_seq (md := .any) (ops := l.toArray) (P := P) (l.drop n) n (canon l.toArray.size n) a w (Q' := fun e a' w' => ∃ K' n' S', QE e S' ∧ Sim N K0 w0 S' K' n' a' w') (fun j => by simp [List.getElem?_drop]) (by rw [hdl]; exact hseq)
        (wpList_mono_ (fun e a' w' hh => by
          obtain ⟨rfl, K', n', S', q1, q2⟩ := hh
          exact ⟨K', n', S', q1, q2⟩) _ _ _ (h3 K nm a w hsim'))
      rwa [hdl] at this)
    n (Array.replicate l.toArray.size false) S K nm a _ (cntU_false _ n (by omega)) inv0 ⟨rfl, fun j t v hj hl => (by rw [getD_in (by simp; omega) (getD_replicate_false _ _)] at hl; cases hl), fun t _ => rfl⟩ hsim.drew
  rwa [show n + (l.toArray.size - n) = l.toArray.size by omega] at H
end
end Go.Proofs.Ytjgjohonbjmakaa
