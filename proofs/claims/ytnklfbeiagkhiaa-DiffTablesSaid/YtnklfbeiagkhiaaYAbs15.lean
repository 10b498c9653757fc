/- Abstract walks: drawn regions whose head makes boxes and fills them. -/
import Derived.Test.YtnklfbeiagkhiaaYAbs8
namespace Go.Proofs.Ytnklfbeiagkhiaa
set_option linter.unusedSimpArgs false
set_option linter.unusedVariables false
open Go Go.RowKit Go.Shelf
theorem getB_some : ∀ {l : List (Nat × List AV)} {d : Nat} {cs : List AV}, (d, cs) ∈ l → ∃ c, getB l d = some c
  | (s, A) :: l, d, cs, h => by
    simp only [getB]
    cases hb : Nat.beq s d with
    | true => exact ⟨A, rfl⟩
    | false =>
      rcases List.mem_cons.1 h with e | h
      · injection e with e1 e2; rw [← e1] at hb; simp at hb
      · exact getB_some h
theorem setBx_keep {l : List (Nat × List AV)} {t b : Nat} {cs c : List AV} (h : (b, c) ∈ l) (hne : b ≠ t) : (b, c) ∈ setBx l t cs := by
  refine List.mem_map.2 ⟨(b, c), h, ?_⟩
  cases hb : Nat.beq b t with
  | true => exact absurd (Nat.eq_of_beq_eq_true hb) hne
  | false => simp only [hb]; rfl
theorem setBx_has {l : List (Nat × List AV)} {t : Nat} {cs c : List AV} (h : (t, c) ∈ l) : (t, cs) ∈ setBx l t cs := by
  refine List.mem_map.2 ⟨(t, c), h, ?_⟩
  simp
/-- What an operation of the head is. -/
inductive HI
  | val | box (d : Nat) (cs : List AV) | put (d : Nat) (cs : List AV)
section
variable {P : Program} {N : Nat} {K0 : Know} {w0 : Bas} {S : St} {ops : Array Oper}
/-- A box that was made is filled. -/
def PutOp (P : Program) (o : Oper) (S : St) (d : Nat) (cs0 cs1 : List AV) : Prop := ∃ (t : TypeId) (y : Operand) (v : Value) (ty : TypeId) (pos : String) (aft : Array Edge), o = ⟨none, .store t (.tmp d) y, ty, pos, aft, none⟩ ∧ S.opv (.tmp d) = .ptr d 0 ∧ S.opv y = .val v ∧
  (P.info? t).map (·.size) = some v.cells.size ∧ v.cells.all (·.oneCell') = true ∧ v.cells.size = cs0.length ∧ v.cells.toList.map AV.val = cs1
structure HInvS (its : Nat → HI) (ops : Array Oper) (n : Nat) (S : St) (vs : List AV) (listed : Array Bool) (T : St) : Prop where
  arrs : T.arrs = S.arrs
  got : ∀ j t v, j < n → listed.getD j true = true → dstAt ops j = some t → vs[j]? = some v → T.get t = v
  no : ∀ t, (∀ j, j < n → listed.getD j true = true → dstAt ops j ≠ some t) → T.get t = S.get t
  box1 : ∀ p ∈ S.boxes, p ∈ T.boxes
  box3 : ∀ d cs, (d, cs) ∈ T.boxes → (d, cs) ∈ S.boxes ∨ ∃ j cs0, j < n ∧ listed.getD j true = true ∧ its j = .box d cs0
  own0 : ∀ j d cs0, j < n → listed.getD j true = true → its j = .box d cs0 → (∀ i cs1, i < n → listed.getD i true = true → its i ≠ .put d cs1) → (d, cs0) ∈ T.boxes
  own1 : ∀ i d cs1, i < n → listed.getD i true = true → its i = .put d cs1 → (d, cs1) ∈ T.boxes
  fr : ∀ j d cs, j < n → listed.getD j true = false → its j = .box d cs → T.free d = true ∧ T.boxes.all (fun p => !(Nat.beq p.1 d)) = true
theorem any_headS {its : Nat → HI} {n g : Nat} {vs : List AV} {Q' : Exit → Act → World → Prop} (hdN : dstsB ops N = true) (hD : discB ops n = true) (hs : Region.sinkB .any ops n = true) (hc : Region.chainB .any ops n = true) (hn : n < ops.size) (hvl : vs.length = n)
    (hok : ∀ i o v, i < n → ops[i]? = some o → vs[i]? = some v → (its i = .val ∧ HOk P N K0 w0 ops o (foldS S (ops.toList.take i) (vs.take i)) v) ∨ (∃ d cs, its i = .box d cs ∧ AllocOp P o d cs ∧ d < N ∧ v = .ptr d 0) ∨
      ∃ d cs0 cs1 j, its i = .put d cs1 ∧ j < i ∧ its j = .box d cs0 ∧ dstAt ops j = some d ∧ PutOp P o (foldS S (ops.toList.take i) (vs.take i)) d cs0 cs1)
    (hfree : ∀ i j v d cs, i < n → j < n → i ≠ j → vs[i]? = some v → its j = .box d cs → v.free d = true)
    (hnames : ∀ i j d cs d' cs', i < n → j < n → i ≠ j → its i = .box d cs → its j = .box d' cs' → d ≠ d' ∧ cs.all (AV.free1 d') = true)
    (hputs : ∀ i j d cs d' cs', i < n → j < n → its i = .put d cs → its j = .box d' cs' → cs.all (AV.free1 d') = true)
    (hsn : ∀ j d cs, j < n → its j = .box d cs → ∀ c, (d, c) ∉ S.boxes)
    (huniq : ∀ i j d cs cs', i < n → j < n → its i = .put d cs → its j = .put d cs' → i = j)
    (hT : ∀ T K nm a w, HInvS its ops n S vs (canon ops.size n) T → Sim N K0 w0 T K nm a w → wpAny P .any ops Q' g (canon ops.size n) a w) :
    ∀ (f : Nat) (listed : Array Bool) (T : St) (K : Know) (nm : Nm) (a : Act) (w : World), cntU listed n = f → HeadInv .any ops n listed → HInvS its ops n S vs listed T → Sim N K0 w0 T K nm a w → wpAny P .any ops Q' (f + g) listed a w := by
  intro f
  induction f with
  | zero =>
    intro listed T K nm a w hf inv hi hsim
    have hall := cntU_zero n hf
    have e : listed = canon ops.size n := by
      apply Array.ext
      · simp [canon, inv.size]
      · intro j h1 h2
        by_cases hj : j < n
        · have := hall j hj
          simp [canon, hj]
          simpa [h1] using this
        · have := inv.tail j (by omega) (by rw [← inv.size]; exact h1)
          simp [canon, hj]
          simpa [h1] using this
    subst e
    rw [Nat.zero_add]
    exact hT T K nm a w hi hsim
  | succ f ih =>
    intro listed T K nm a w hf inv hi hsim
    obtain ⟨i0, hi0, hun0, hmin⟩ := cntU_pos n (by omega : cntU listed n ≠ 0)
    rw [show f + 1 + g = (f + g) + 1 by omega]
    have hready0 : i0 ∈ Region.ready .any ops listed := by
      obtain ⟨oi, hoi, hback, _⟩ := discB_spec hD hi0
      refine mem_ready.2 ⟨hun0, oi, hoi, fun e he hb => ?_⟩
      have h1 := hmin e.on (hback e he hb)
      have hlt : e.on < listed.size := by rw [inv.size]; have := hback e he hb; omega
      simpa [hlt] using h1
    refine ⟨fun h0 => (by rw [h0] at hready0; cases hready0), fun i hr => ?_⟩
    have hin : i < n := by
      rcases Nat.lt_or_ge i n with h | h
      · exact h
      · exact absurd hr (tail_waits hs hc hn inv _ i0 rfl hi0 hun0 i h)
    obtain ⟨hun, oi', hoi', hall⟩ := mem_ready.1 hr
    obtain ⟨oi, hoi, hback, hdisc⟩ := discB_spec hD hin
    obtain rfl : oi' = oi := Option.some.inj (hoi'.symm.trans hoi)
    have hvi : i < vs.length := by rw [hvl]; exact hin
    have hv : vs[i]? = some vs[i] := List.getElem?_eq_getElem hvi
    have hstep := hok i _ _ hin hoi hv
    have hlisted : ∀ j, listed.getD j false = true → listed.getD j true = true := fun j hj => by
      cases h : listed.getD j true with
      | true => rfl
      | false => rw [getD_both h] at hj; cases hj
    -- the operands are as in the order of the text
    have hget : ∀ t, t ∈ oi'.looksAt ops → T.get t = (foldS S (ops.toList.take i) (vs.take i)).get t := by
      intro t ht
      have htk : ∀ (j : Nat) o, (ops.toList.take i)[j]? = some o → j < i ∧ ops[j]? = some o := fun j o ho => by
        rw [List.getElem?_take] at ho
        split at ho
        · rename_i hj; exact ⟨hj, by simpa using ho⟩
        · cases ho
      by_cases hex : ∃ j, j < n ∧ dstAt ops j = some t
      · obtain ⟨j, hj, hd⟩ := hex
        have huniq : ∀ k, k < n → dstAt ops k = some t → k = j := fun k hk hdk => by
          obtain ⟨_, _, _, hdk'⟩ := discB_spec hD hk
          rcases (hdk' j t hj hd).1 with h | h
          · exact h
          · exact absurd hdk h
        obtain ⟨_, hw⟩ := hdisc j t hj hd
        obtain ⟨hw1, hw2⟩ := hw ht
        rcases Nat.lt_or_ge j i with hji | hji
        · obtain ⟨o', ho', e, he, hb, hon⟩ := Region.waitsFor_spec (hw1 hji)
          obtain rfl : o' = oi' := Option.some.inj (ho'.symm.trans hoi)
          have hlj := hall e he hb
          rw [hon] at hlj
          have hvj : j < vs.length := by omega
          rw [hi.got j t vs[j] hj (hlisted j hlj) hd (List.getElem?_eq_getElem hvj)]
          cases hoj : ops[j]? with
          | none => simp [dstAt, hoj] at hd
          | some oj =>
            symm
            refine foldS_get _ _ S t j oj vs[j] (by rw [List.getElem?_take, if_pos hji]; simpa using hoj) (by rw [List.getElem?_take, if_pos hji]; exact List.getElem?_eq_getElem hvj) (by simpa [dstAt, hoj] using hd) (fun j' o' hjj ho' => ?_)
            obtain ⟨h1, h2⟩ := htk j' o' ho'
            intro hdd
            have := huniq j' (by omega) (by simp [dstAt, h2, hdd])
            omega
        · have hnl : listed.getD j true ≠ true := by
            rcases Nat.lt_or_ge i j with hij | hij
            · intro hl
              obtain ⟨oj, hoj, e, he, hb, hon⟩ := Region.waitsFor_spec (hw2 hij)
              have hjs : j < listed.size := by rw [inv.size]; omega
              have := inv.closed j oj hoj (by simpa [hjs] using hl) e he hb
              rw [hon, getD_both hun] at this
              cases this
            · have : j = i := by omega
              subst this
              rw [hun]; simp
          rw [hi.no t (fun k hk hl hdk => by have := huniq k hk hdk; subst this; exact hnl hl)]
          symm
          refine foldS_get_no _ _ S t (fun k o ho hdk => ?_)
          obtain ⟨h1, h2⟩ := htk k o ho
          have := huniq k (by omega) (by simp [dstAt, h2, hdk])
          omega
      · rw [hi.no t (fun k hk _ hdk => hex ⟨k, hk, hdk⟩)]
        symm
        refine foldS_get_no _ _ S t (fun k o ho hdk => ?_)
        obtain ⟨h1, h2⟩ := htk k o ho
        exact hex ⟨k, by omega, by simp [dstAt, h2, hdk]⟩
    have hset : ∀ j, j ≠ i → (listed.setIfInBounds i true).getD j true = listed.getD j true := fun j hj => getD_set_ne true (Ne.symm hj)
    have hseti : (listed.setIfInBounds i true).getD i true = true := by
      have : i < listed.size := by rw [inv.size]; omega
      simp [this]
    have hsub : ∀ j, listed.getD j true = true → (listed.setIfInBounds i true).getD j true = true := fun j hj => by
      by_cases e : j = i
      · subst e; exact hseti
      · rw [hset j e]; exact hj
    have hsub2 : ∀ j, j ≠ i → (listed.setIfInBounds i true).getD j true = true → listed.getD j true = true := fun j e hj => by rw [← hset j e]; exact hj
    have hnextT : ∀ (T' : St) (K' : Know) (nm' : Nm) (a' : Act) (w' : World), T'.tmps = (T.putO oi'.dst vs[i]).tmps → T'.arrs = S.arrs → (∀ p ∈ S.boxes, p ∈ T'.boxes) →
        (∀ d cs, (d, cs) ∈ T'.boxes → (d, cs) ∈ T.boxes ∨ its i = .box d cs ∨ (its i = .put d cs ∧ (∃ c, (d, c) ∈ T.boxes) ∧ ∃ j cs0, j < n ∧ listed.getD j true = true ∧ its j = .box d cs0)) →
        (∀ d cs, (d, cs) ∈ T.boxes → (∀ cs1, its i ≠ .put d cs1) → (d, cs) ∈ T'.boxes) → (∀ d cs, its i = .box d cs ∨ its i = .put d cs → (d, cs) ∈ T'.boxes) →
        Sim N K0 w0 T' K' nm' a' w' → wpAny P .any ops Q' (f + g) (listed.setIfInBounds i true) a' w' := by
      intro T' K' nm' a' w' htm har hb1 hb3 hb0 hbi hs'
      have hg2 : ∀ t, T'.get t = (T.putO oi'.dst vs[i]).get t := fun t => by unfold St.get; rw [htm]
      refine ih _ T' K' nm' a' w' (by rw [cntU_set hun, if_pos hin]; omega) (inv.set hr hin) ⟨har, fun j t v hj hl hd hvv => ?_, fun t hno => ?_, hb1, fun d cs hp => ?_, fun j d cs0 hj hl hp hno => ?_, fun j d cs1 hj hl hp => ?_, fun j d cs hj hl hp => ?_⟩ hs'
      · rw [hg2]
        by_cases e : j = i
        · subst e
          have hdi : oi'.dst = some t := by simpa [dstAt, hoi] using hd
          rw [hdi, putO_get_eq]
          rw [hv] at hvv
          exact Option.some.inj hvv
        · have hne : oi'.dst ≠ some t := fun h => by
            have := (hdisc j t hj hd).1
            rcases this with h1 | h1
            · exact e h1.symm
            · exact h1 (by simp [dstAt, hoi, h])
          rw [putO_get_ne hne]
          exact hi.got j t v hj (hsub2 j e hl) hd hvv
      · rw [hg2]
        have hne : oi'.dst ≠ some t := fun h => hno i hin hseti (by simp [dstAt, hoi, h])
        rw [putO_get_ne hne]
        exact hi.no t (fun j hj hl => hno j hj (hsub j hl))
      · rcases hb3 d cs hp with h | h | ⟨h, _, j, cs0, q1, q2, q3⟩
        · rcases hi.box3 d cs h with h | ⟨j, cs0, q1, q2, q3⟩
          · exact .inl h
          · exact .inr ⟨j, cs0, q1, hsub j q2, q3⟩
        · exact .inr ⟨i, cs, hin, hseti, h⟩
        · exact .inr ⟨j, cs0, q1, hsub j q2, q3⟩
      · by_cases e : j = i
        · subst e; exact hbi d cs0 (.inl hp)
        · exact hb0 d cs0 (hi.own0 j d cs0 hj (hsub2 j e hl) hp fun i' cs1 q1 q2 => hno i' cs1 q1 (hsub i' q2)) fun cs1 hc => hno i cs1 hin hseti hc
      · by_cases e : j = i
        · subst e; exact hbi d cs1 (.inr hp)
        · exact hb0 d cs1 (hi.own1 j d cs1 hj (hsub2 j e hl) hp) fun cs2 hc => e (huniq j i d cs1 cs2 hj hin hp hc)
      · have e : j ≠ i := fun e => by subst e; rw [hseti] at hl; cases hl
        rw [hset j e] at hl
        obtain ⟨f1, f2⟩ := hi.fr j d cs hj hl hp
        have hvf := hfree i j vs[i] d cs hin hj (Ne.symm e) hv hp
        have hput : (T.putO oi'.dst vs[i]).tmps.all (fun p => p.2.free d) = true := by
          cases hdst : oi'.dst with
          | none => exact St.free_tmps f1
          | some t => simp only [St.putO, St.put, List.all_cons, hvf, Bool.true_and]; exact St.free_tmps f1
        have hne : ∀ {d1 : Nat}, d1 ≠ d → (!(Nat.beq d1 d)) = true := fun {d1} h => by
          cases hb : Nat.beq d1 d with
          | true => exact absurd (Nat.eq_of_beq_eq_true hb) h
          | false => rfl
        refine ⟨?_, List.all_eq_true.2 fun p hp2 => ?_⟩
        · simp only [St.free, Bool.and_eq_true]
          refine ⟨⟨by rw [htm]; exact hput, List.all_eq_true.2 fun p hp2 => ?_⟩, ?_⟩
          · obtain ⟨d1, c1⟩ := p
            rcases hb3 d1 c1 hp2 with h | h | ⟨h, _⟩
            · exact List.all_eq_true.1 (St.free_boxes f1) _ h
            · exact (hnames i j d1 c1 d cs hin hj (Ne.symm e) h hp).2
            · exact hputs i j d1 c1 d cs hin hj h hp
          · rw [har, ← hi.arrs]
            simp only [St.free, Bool.and_eq_true] at f1
            exact f1.2
        · obtain ⟨d1, c1⟩ := p
          rcases hb3 d1 c1 hp2 with h | h | ⟨h, ⟨c, hc⟩, _⟩
          · exact List.all_eq_true.1 f2 _ h
          · exact hne (hnames i j d1 c1 d cs hin hj (Ne.symm e) h hp).1
          · exact List.all_eq_true.1 f2 (d1, c) hc
    have hdO := dstsB_spec (N := N) hdN hoi
    have hgN : ∀ g' want dg, oi'.guard = some (g', want) → ((ops[g']?).bind (·.dst)) = some dg → dg < N := fun g' want dg _ hd => dstsB_at hdN hd
    unfold wpOp
    simp only [hoi]
    rcases hstep with ⟨hal, hstep⟩ | ⟨d, cs, hal, ⟨e, z, ty, pos, aft, rfl, hz, hcs⟩, hdN', hvd⟩ | ⟨d, cs0, cs1, j0, hal, hj0, hij0, hdj0, ⟨t, y, v, ty, pos, aft, rfl, hx, hy, hk, ho1, hsz, hcs⟩⟩
    · -- a value
      have hgd : ∀ b, GuardIs ops oi' (foldS S (ops.toList.take i) (vs.take i)) b → GuardIs ops oi' T b := fun b hb => by
        unfold GuardIs at *
        cases hg : oi'.guard with
        | none => rw [hg] at hb; exact hb
        | some p =>
          obtain ⟨g', want⟩ := p
          rw [hg] at hb
          obtain ⟨dg, h1, h2⟩ := hb
          refine ⟨dg, h1, ?_⟩
          rw [hget dg (by unfold Oper.looksAt; rw [hg]; simp [h1])]
          exact h2
      have hput : ∀ (A : AV), (T.putO oi'.dst A).boxes = T.boxes ∧ (T.putO oi'.dst A).arrs = T.arrs := fun A => by cases oi'.dst <;> exact ⟨rfl, rfl⟩
      have hnext : ∀ (K' : Know) (nm' : Nm) (a' : Act) (w' : World), Sim N K0 w0 (T.putO oi'.dst vs[i]) K' nm' a' w' → wpAny P .any ops Q' (f + g) (listed.setIfInBounds i true) a' w' := fun K' nm' a' w' hs' =>
        hnextT _ K' nm' a' w' rfl (by rw [(hput _).2]; exact hi.arrs) (fun p hp => by rw [(hput _).1]; exact hi.box1 p hp) (fun d cs hp => by rw [(hput _).1] at hp; exact .inl hp) (fun d cs hp _ => by rw [(hput _).1]; exact hp) (fun d cs h => by rw [hal] at h; rcases h with h | h <;> cases h) hs'
      have hT0 : Sim N K0 w0 ⟨T.tmps, S.boxes, S.arrs⟩ K nm a w := hsim.weak ⟨⟨fun t => .inl (.inl rfl), fun d A hd => by rw [hi.arrs]; exact hd⟩, fun d cs' hd => ⟨cs', hi.box1 _ hd, rfl, fun i c c' q1 q2 => by rw [q1] at q2; injection q2 with q2; exact .inl q2.symm⟩⟩
        (fun d c c' q1 q2 => hsim.boxOne d c c' (hi.box1 _ q1) (hi.box1 _ q2))
      rcases hstep with ⟨hg, hop⟩ | ⟨hg, hvu⟩
      · rw [wanted_of hsim (hgd true hg) hgN]
        simp only [if_true]
        refine .inl (upon_false (Oper.wp_mono ?_ (hop ⟨T.tmps, S.boxes, S.arrs⟩ K nm a w hT0 (foldS_boxes _ _ S).symm (fun x hx => ?_))))
        · rintro a' w' ⟨c, K', rfl, h1, h2, h3, h4, h5, h6⟩
          refine hnext K' nm _ w' ((hsim.grow h1 h2 h3 h4).putO hdO h5 fun r e k xs hr => ?_)
          rcases h6 r e k xs hr with h | ⟨d, cs, hm, hA⟩
          · exact .inl h
          · exact .inr ⟨d, cs, hi.box1 _ hm, hA⟩
        · cases x with
          | tmp t => exact hget t (List.mem_append_left _ (List.mem_filterMap.2 ⟨.tmp t, by simpa using hx, rfl⟩))
          | const v => rfl
          | global g => rfl
          | func f => rfl
      · rw [wanted_of hsim (hgd false hg) hgN]
        simp only [Bool.false_eq_true, if_false]
        refine hnext K nm _ w (hsim.putO hdO ?_ ?_)
        · rw [hvu]; exact rfl
        · rw [hvu]; exact has_val
    · -- a box
      rw [wanted_of hsim (b := true) (show GuardIs ops ⟨some d, .alloc e, ty, pos, aft, none⟩ T true from rfl) hgN]
      simp only [if_true]
      obtain ⟨f1, f2⟩ := hi.fr i d cs hin hun hal
      refine .inl (upon_false (Oper.wp_mono ?_ (OpT.alloc (Q := fun S' => S' = ⟨(d, .ptr d 0) :: T.tmps, (d, cs) :: T.boxes, T.arrs⟩) hz hcs hdN' f1 f2 rfl K nm a w hsim)))
      rintro a' w' ⟨K', n', S', rfl, hs'⟩
      refine hnextT ⟨(d, .ptr d 0) :: T.tmps, (d, cs) :: T.boxes, T.arrs⟩ K' n' a' w' (by rw [hvd]; rfl) hi.arrs (fun p hp => List.mem_cons_of_mem _ (hi.box1 p hp)) (fun d' cs' hp => ?_) (fun d' cs' hp _ => List.mem_cons_of_mem _ hp) (fun d' cs' h => ?_) hs'
      · rcases List.mem_cons.1 hp with h | h
        · injection h with h1 h2; subst h1 h2; exact .inr (.inl hal)
        · exact .inl h
      · rw [hal] at h
        rcases h with h | h
        · injection h with h1 h2; subst h1 h2; exact List.mem_cons_self
        · cases h
    · -- a store into a box that was made
      have hlooks : ∀ q ∈ [Operand.tmp d, y], ∀ tq, q = .tmp tq → tq ∈ (⟨none, .store t (.tmp d) y, ty, pos, aft, none⟩ : Oper).looksAt ops := fun q hq tq hqt => by
        subst hqt
        refine List.mem_append_left _ (List.mem_filterMap.2 ⟨.tmp tq, ?_, rfl⟩)
        simp only [Op.operands]
        simpa using hq
      have hopv : ∀ q ∈ [Operand.tmp d, y], T.opv q = (foldS S (ops.toList.take i) (vs.take i)).opv q := fun q hq => by
        cases q with
        | tmp tq => exact hget tq (hlooks _ hq tq rfl)
        | const v => rfl
        | global g => rfl
        | func f => rfl
      have hlj : listed.getD j0 true = true := by
        obtain ⟨_, hw⟩ := hdisc j0 d (by omega) hdj0
        obtain ⟨hw1, _⟩ := hw (hlooks _ (by simp) d rfl)
        obtain ⟨o', ho', e, he, hb, hon⟩ := Region.waitsFor_spec (hw1 hj0)
        obtain rfl : o' = _ := Option.some.inj (ho'.symm.trans hoi)
        have := hall e he hb
        rw [hon] at this
        exact hlisted j0 this
      have hnop : ∀ i' c, i' < n → listed.getD i' true = true → its i' ≠ .put d c := fun i' c q1 q2 hc => by
        have := huniq i' i d c cs1 q1 hin hc hal
        subst this
        rw [hun] at q2; cases q2
      have hm0 := hi.own0 j0 d cs0 (by omega) hlj hij0 hnop
      have hget0 : getB T.boxes d = some cs0 := by
        obtain ⟨c, hc⟩ : ∃ c, getB T.boxes d = some c := getB_some hm0
        rw [hc, hsim.boxOne d c cs0 (getB_mem hc) hm0]
      rw [wanted_of hsim (b := true) (show GuardIs ops ⟨none, .store t (.tmp d) y, ty, pos, aft, none⟩ T true from rfl) hgN]
      simp only [if_true]
      refine .inl (upon_false (Oper.wp_mono ?_ (OpT.store (Q := fun S' => S' = ⟨T.tmps, setBx T.boxes d cs1, T.arrs⟩) (b := d) (o := 0) ((hopv _ (by simp)).trans hx) ((hopv _ (by simp)).trans hy) hget0 hk ho1 (by omega) (by rw [List.take_zero, List.nil_append, List.drop_eq_nil_of_le (by omega), List.append_nil]; exact hcs) rfl rfl K nm a w hsim)))
      rintro a' w' ⟨K', n', S', rfl, hs'⟩
      refine hnextT ⟨T.tmps, setBx T.boxes d cs1, T.arrs⟩ K' n' a' w' rfl hi.arrs (fun p hp => ?_) (fun d' cs' hp => ?_) (fun d' cs' hp hne => ?_) (fun d' cs' h => ?_) hs'
      · obtain ⟨d', c'⟩ := p
        refine setBx_keep (hi.box1 _ hp) fun e => ?_
        subst e
        exact hsn j0 d' cs0 (by omega) hij0 c' hp
      · obtain ⟨c, hc, ⟨rfl, rfl⟩ | ⟨hne, rfl⟩⟩ := setBx_mem hp
        · exact .inr (.inr ⟨hal, ⟨c, hc⟩, j0, cs0, by omega, hlj, hij0⟩)
        · exact .inl hc
      · exact setBx_keep hp fun e => by subst e; exact hne cs1 hal
      · rw [hal] at h
        rcases h with h | h
        · cases h
        · injection h with h1 h2; subst h1 h2; exact setBx_has hm0
def putOf : List HI → Nat → List AV → List AV
  | [], _, c => c
  | .put d' c' :: l, d, c => cond (Nat.beq d' d) c' (putOf l d c)
  | .val :: l, d, c => putOf l d c
  | .box _ _ :: l, d, c => putOf l d c
theorem putOf_spec : ∀ (l : List HI) (d : Nat) (c : List AV), (∃ i : Nat, l[i]? = some (.put d (putOf l d c))) ∨ (putOf l d c = c ∧ ∀ (i : Nat) c', l[i]? ≠ some (.put d c'))
  | [], d, c => .inr ⟨rfl, fun i c' h => by simp at h⟩
  | .put d' c' :: l, d, c => by
    simp only [putOf]
    cases hb : Nat.beq d' d with
    | true =>
      have := Nat.eq_of_beq_eq_true hb
      subst this
      exact .inl ⟨0, rfl⟩
    | false =>
      rcases putOf_spec l d c with ⟨i, h⟩ | ⟨h1, h2⟩
      · exact .inl ⟨i + 1, by simpa using h⟩
      · refine .inr ⟨h1, fun i c'' h => ?_⟩
        cases i with
        | zero => simp at h; rw [h.1] at hb; simp at hb
        | succ i => exact h2 i c'' (by simpa using h)
  | .val :: l, d, c => by
    rcases putOf_spec l d c with ⟨i, h⟩ | ⟨h1, h2⟩
    · exact .inl ⟨i + 1, by simpa [putOf] using h⟩
    · refine .inr ⟨h1, fun i c'' h => ?_⟩
      cases i with
      | zero => simp at h
      | succ i => exact h2 i c'' (by simpa using h)
  | .box a b :: l, d, c => by
    rcases putOf_spec l d c with ⟨i, h⟩ | ⟨h1, h2⟩
    · exact .inl ⟨i + 1, by simpa [putOf] using h⟩
    · refine .inr ⟨h1, fun i c'' h => ?_⟩
      cases i with
      | zero => simp at h
      | succ i => exact h2 i c'' (by simpa using h)
def HI.fin (its : List HI) : HI → Option (Nat × List AV)
  | .box d cs0 => some (d, putOf its d cs0)
  | _ => none
/-- The boxes that were made, as they stand at the end. -/
def finB (its : List HI) : List (Nat × List AV) := its.filterMap (HI.fin its)
/-- The head, in the order of the text. -/
def HS (P : Program) (N : Nat) (K0 : Know) (w0 : Bas) (ops : Array Oper) : List Oper → St → List AV → List HI → (List AV → List HI → St → Prop) → Prop
  | [], S, vs, its, Q => Q vs its ⟨S.tmps, finB its ++ S.boxes, S.arrs⟩
  | o :: l, S, vs, its, Q => (∃ v, HOk P N K0 w0 ops o S v ∧ HS P N K0 w0 ops l (S.putO o.dst v) (vs ++ [v]) (its ++ [.val]) Q) ∨
      (∃ d cs, AllocOp P o d cs ∧ d < N ∧ HS P N K0 w0 ops l (S.putO o.dst (.ptr d 0)) (vs ++ [.ptr d 0]) (its ++ [.box d cs]) Q) ∨
      ∃ (d : Nat) (cs0 cs1 : List AV) (j : Nat), its[j]? = some (HI.box d cs0) ∧ PutOp P o S d cs0 cs1 ∧ HS P N K0 w0 ops l (S.putO o.dst .dead) (vs ++ [.dead]) (its ++ [.put d cs1]) Q
theorem HS.elim : ∀ {l : List Oper} {S : St} {vs0 : List AV} {its0 : List HI} {Q : List AV → List HI → St → Prop}, HS P N K0 w0 ops l S vs0 its0 Q → ∃ (vs : List AV) (its : List HI), vs.length = l.length ∧ its.length = l.length ∧
    (∀ (i : Nat) o v q, l[i]? = some o → vs[i]? = some v → its[i]? = some q → (q = .val ∧ HOk P N K0 w0 ops o (foldS S (l.take i) (vs.take i)) v) ∨ (∃ d cs, q = .box d cs ∧ AllocOp P o d cs ∧ d < N ∧ v = .ptr d 0) ∨
      ∃ (d : Nat) (cs0 cs1 : List AV) (j : Nat), q = .put d cs1 ∧ j < its0.length + i ∧ (its0 ++ its)[j]? = some (HI.box d cs0) ∧ PutOp P o (foldS S (l.take i) (vs.take i)) d cs0 cs1) ∧
    Q (vs0 ++ vs) (its0 ++ its) ⟨(foldS S l vs).tmps, finB (its0 ++ its) ++ S.boxes, S.arrs⟩
  | [], S, vs0, its0, Q, h => ⟨[], [], rfl, rfl, fun i o v q h => by simp at h, by simpa [HS, foldS] using h⟩
  | o :: l, S, vs0, its0, Q, h => by
    have hm : ∀ A, (S.putO o.dst A).boxes = S.boxes ∧ (S.putO o.dst A).arrs = S.arrs := fun A => by cases o.dst <;> exact ⟨rfl, rfl⟩
    have go : ∀ (v : AV) (q : HI), ((q = .val ∧ HOk P N K0 w0 ops o S v) ∨ (∃ d cs, q = .box d cs ∧ AllocOp P o d cs ∧ d < N ∧ v = .ptr d 0) ∨ ∃ (d : Nat) (cs0 cs1 : List AV) (j : Nat), q = .put d cs1 ∧ its0[j]? = some (HI.box d cs0) ∧ PutOp P o S d cs0 cs1) →
        HS P N K0 w0 ops l (S.putO o.dst v) (vs0 ++ [v]) (its0 ++ [q]) Q → ∃ (vs : List AV) (its : List HI), vs.length = (o :: l).length ∧ its.length = (o :: l).length ∧
        (∀ (i : Nat) o' v q, (o :: l)[i]? = some o' → vs[i]? = some v → its[i]? = some q → (q = .val ∧ HOk P N K0 w0 ops o' (foldS S ((o :: l).take i) (vs.take i)) v) ∨ (∃ d cs, q = .box d cs ∧ AllocOp P o' d cs ∧ d < N ∧ v = .ptr d 0) ∨
          ∃ (d : Nat) (cs0 cs1 : List AV) (j : Nat), q = .put d cs1 ∧ j < its0.length + i ∧ (its0 ++ its)[j]? = some (HI.box d cs0) ∧ PutOp P o' (foldS S ((o :: l).take i) (vs.take i)) d cs0 cs1) ∧
        Q (vs0 ++ vs) (its0 ++ its) ⟨(foldS S (o :: l) vs).tmps, finB (its0 ++ its) ++ S.boxes, S.arrs⟩ := fun v q h1 h2 => by
      obtain ⟨vs, its, h3, h4, h5, h6⟩ := HS.elim h2
      refine ⟨v :: vs, q :: its, by simp [h3], by simp [h4], fun i o' v' q' ho hv hq => ?_, ?_⟩
      · cases i with
        | zero =>
          simp at ho hv hq
          subst ho hv hq
          rcases h1 with h1 | h1 | ⟨d, cs0, cs1, j, e1, e2, e3⟩
          · exact .inl h1
          · exact .inr (.inl h1)
          · refine .inr (.inr ⟨d, cs0, cs1, j, e1, (List.getElem?_eq_some_iff.1 e2).1, ?_, e3⟩)
            rw [List.getElem?_append_left (List.getElem?_eq_some_iff.1 e2).1]; exact e2
        | succ i =>
          rcases h5 i o' v' q' (by simpa using ho) (by simpa using hv) (by simpa using hq) with h | h | ⟨d, cs0, cs1, j, e1, e2, e3, e4⟩
          · exact .inl h
          · exact .inr (.inl h)
          · exact .inr (.inr ⟨d, cs0, cs1, j, e1, by simp at e2; omega, by simpa using e3, e4⟩)
      · rw [(hm v).1, (hm v).2] at h6
        simpa [foldS] using h6
    rcases h with ⟨v, h1, h2⟩ | ⟨d, cs, h1, hd, h2⟩ | ⟨d, cs0, cs1, j, h1, h2, h3⟩
    · exact go v .val (.inl ⟨rfl, h1⟩) h2
    · exact go _ _ (.inr (.inl ⟨d, cs, rfl, h1, hd, rfl⟩)) h2
    · exact go _ _ (.inr (.inr ⟨d, cs0, cs1, j, rfl, h1, h2⟩)) h3
/-- Each made box is named anew, and no other value speaks of it; each is filled once. -/
def freshS (S : St) (vs : List AV) (its : List HI) : Bool :=
  (List.range its.length).all fun j => match its[j]? with
    | some (.box d cs) => S.free d && S.boxes.all (fun p => !(Nat.beq p.1 d)) && (List.range its.length).all fun i => (Nat.beq i j || ((match vs[i]? with | some v => v.free d | none => false) && (match its[i]? with | some (.box d' cs') => !(Nat.beq d' d) && cs'.all (AV.free1 d) | _ => true))) && (match its[i]? with | some (.put _ cs') => cs'.all (AV.free1 d) | _ => true)
    | some (.put d cs) => (List.range its.length).all fun i => Nat.beq i j || (match its[i]? with | some (.put d' _) => !(Nat.beq d' d) | _ => true)
    | _ => true
theorem ne_beq {i j : Nat} (h : i ≠ j) : Nat.beq i j = false := by
  cases hb : Nat.beq i j with
  | false => rfl
  | true => exact absurd (Nat.eq_of_beq_eq_true hb) h
theorem freshS_box {S : St} {vs : List AV} {its : List HI} (h : freshS S vs its = true) {j d : Nat} {cs : List AV} (hj : its[j]? = some (.box d cs)) :
    S.free d = true ∧ S.boxes.all (fun p => !(Nat.beq p.1 d)) = true ∧ ∀ i, i < its.length → (i ≠ j → (∀ v, vs[i]? = some v → v.free d = true) ∧ ∀ d' cs', its[i]? = some (.box d' cs') → d' ≠ d ∧ cs'.all (AV.free1 d) = true) ∧ ∀ d' cs', its[i]? = some (.put d' cs') → cs'.all (AV.free1 d) = true := by
  have hlt := (List.getElem?_eq_some_iff.1 hj).1
  have h1 := List.all_eq_true.1 h j (List.mem_range.2 hlt)
  rw [hj] at h1
  simp only [Bool.and_eq_true] at h1
  refine ⟨h1.1.1, h1.1.2, fun i hi => ?_⟩
  have h2 := List.all_eq_true.1 h1.2 i (List.mem_range.2 hi)
  rw [Bool.and_eq_true] at h2
  refine ⟨fun hne => ?_, fun d' cs' hd => ?_⟩
  · have h3 := h2.1
    rw [ne_beq hne, Bool.false_or, Bool.and_eq_true] at h3
    refine ⟨fun v hv => ?_, fun d' cs' hd => ?_⟩
    · have := h3.1; rw [hv] at this; exact this
    · have := h3.2
      rw [hd] at this
      simp only [Bool.and_eq_true] at this
      refine ⟨fun e => ?_, this.2⟩
      have h4 := this.1
      rw [e, show Nat.beq d d = true from by simp] at h4
      cases h4
  · have := h2.2; rw [hd] at this; exact this
theorem freshS_put {S : St} {vs : List AV} {its : List HI} (h : freshS S vs its = true) {i j d : Nat} {cs cs' : List AV} (hi : its[i]? = some (.put d cs)) (hj : its[j]? = some (.put d cs')) : i = j := by
  refine Classical.byContradiction fun hne => ?_
  have h1 := List.all_eq_true.1 h j (List.mem_range.2 (List.getElem?_eq_some_iff.1 hj).1)
  rw [hj] at h1
  have h2 := List.all_eq_true.1 h1 i (List.mem_range.2 (List.getElem?_eq_some_iff.1 hi).1)
  rw [ne_beq hne, Bool.false_or, hi] at h2
  simp at h2
theorem draw_anyS {Q : St → Prop} {l : List Oper} (n : Nat) (hB : headB l.toArray N n = true)
    (h : HS P N K0 w0 l.toArray (l.take n) S [] [] fun vs its S' => freshS S vs its = true ∧ LT P N K0 w0 l.toArray (l.drop n) S' Q) {K : Know} {nm : Nm} {a : Act} {w : World} (hsim : Sim N K0 w0 S K nm a w) :
    wpAny P .any l.toArray (fun e a' w' => e = .normal ∧ ∃ K' n' S', Q S' ∧ Sim N K0 w0 S' K' n' a' w') l.toArray.size (Array.replicate l.toArray.size false) a { w with drawn := w.drawn + 1 } := by
  simp only [headB, Bool.and_eq_true, decide_eq_true_eq] at hB
  obtain ⟨⟨⟨⟨⟨hdN, hD⟩, hs⟩, hc⟩, hn⟩, hseq⟩ := hB
  have hn' : n < l.length := by simpa using hn
  obtain ⟨vs, its, h1, h1', h2, hfr, h3⟩ := h.elim
  have htl : (l.take n).length = n := by simp; omega
  rw [htl] at h1 h1'
  simp only [List.nil_append] at hfr h3
  have hal : ∀ (j : Nat) (q : HI), q ≠ .val → (its[j]?).getD .val = q → its[j]? = some q := fun j q hq hj => by
    cases hh : its[j]? with
    | none => rw [hh] at hj; exact absurd hj.symm hq
    | some q' => rw [hh] at hj; simp only [Option.getD_some] at hj; rw [hj]
  have hbx : ∀ (j d : Nat) cs, (its[j]?).getD .val = .box d cs → its[j]? = some (.box d cs) := fun j d cs hj => hal j _ (by simp) hj
  have hpt : ∀ (j d : Nat) cs, (its[j]?).getD .val = .put d cs → its[j]? = some (.put d cs) := fun j d cs hj => hal j _ (by simp) hj
  have inv0 : HeadInv .any l.toArray n (Array.replicate l.toArray.size false) :=
    ⟨by simp, fun j oj _ hl => (by rw [getD_replicate_false] at hl; cases hl), fun t _ ht => getD_in (by simpa using ht) (getD_replicate_false _ _)⟩
  have H := any_headS (P := P) (S := S) (its := fun j => (its[j]?).getD .val) (g := l.toArray.size - n) (vs := vs) (Q' := fun e a' w' => e = .normal ∧ ∃ K' n' S', Q S' ∧ Sim N K0 w0 S' K' n' a' w') hdN hD hs hc hn h1
    (fun i o v hi ho hv => by
      have hqi : its[i]? = some its[i] := List.getElem?_eq_getElem (by omega)
      have := h2 i o v _ (by rw [List.getElem?_take, if_pos hi]; simpa using ho) hv hqi
      rw [List.take_take, Nat.min_eq_left (Nat.le_of_lt hi)] at this
      simp only [hqi, Option.getD_some]
      rcases this with h | h | ⟨d, cs0, cs1, j, q1, q2, q3, q4⟩
      · exact .inl h
      · exact .inr (.inl h)
      · simp only [List.length_nil, Nat.zero_add, List.nil_append] at q2 q3
        refine .inr (.inr ⟨d, cs0, cs1, j, q1, q2, by rw [q3]; rfl, ?_, q4⟩)
        have hjl : j < n := by omega
        cases hoj : l.toArray[j]? with
        | none => simp at hoj; omega
        | some oj =>
          have hvj : vs[j]? = some vs[j] := List.getElem?_eq_getElem (by omega)
          rcases h2 j oj _ _ (by rw [List.getElem?_take, if_pos hjl]; simpa using hoj) hvj q3 with ⟨h, _⟩ | ⟨d', cs', h, ⟨_, _, _, _, _, rfl, _⟩, _⟩ | ⟨_, _, _, _, h, _⟩
          · cases h
          · injection h with h1 _; subst h1; simp [dstAt, hoj]
          · cases h)
    (fun i j v d cs hi hj hne hv hq => (((freshS_box hfr (hbx j d cs hq)).2.2 i (by omega)).1 hne).1 v hv)
    (fun i j d cs d' cs' hi hj hne q1 q2 => (((freshS_box hfr (hbx j d' cs' q2)).2.2 i (by omega)).1 hne).2 d cs (hbx i d cs q1))
    (fun i j d cs d' cs' hi hj q1 q2 => ((freshS_box hfr (hbx j d' cs' q2)).2.2 i (by omega)).2 d cs (hpt i d cs q1))
    (fun j d cs hj hq c hm => by
      have := List.all_eq_true.1 (freshS_box hfr (hbx j d cs hq)).2.1 _ hm
      simp at this)
    (fun i j d cs cs' hi hj q1 q2 => freshS_put hfr (hpt i d cs q1) (hpt j d cs' q2))
    (fun T K nm a w hi hsim => by
      have hcan : ∀ j, j < n → (canon l.toArray.size n).getD j true = true := fun j hj => by
        have hjl : j < l.length := by omega
        simp [canon, hj, hjl]
      have hbx2 : ∀ p, p ∈ finB its ++ S.boxes → p ∈ T.boxes := fun p hp => by
        rcases List.mem_append.1 hp with hp | hp
        · obtain ⟨q, hq, hid⟩ := List.mem_filterMap.1 hp
          cases q with
          | val => cases hid
          | put d c => cases hid
          | box d cs0 =>
            simp only [HI.fin, Option.some.injEq] at hid
            subst hid
            obtain ⟨j, hj, hqj⟩ := List.getElem_of_mem hq
            have hjs : its[j]? = some (.box d cs0) := by rw [List.getElem?_eq_getElem hj, hqj]
            rcases putOf_spec its d cs0 with ⟨i, h⟩ | ⟨h, hno⟩
            · have hil := (List.getElem?_eq_some_iff.1 h).1
              exact hi.own1 i d _ (by omega) (hcan i (by omega)) (by rw [h]; rfl)
            · rw [h]
              exact hi.own0 j d cs0 (by omega) (hcan j (by omega)) (by rw [hjs]; rfl) fun i cs1 q1 q2 q3 => hno i cs1 (hpt i d cs1 q3)
        · exact hi.box1 p hp
      have hw : T.wk ⟨(foldS S (l.take n) vs).tmps, finB its ++ S.boxes, S.arrs⟩ := by
        refine ⟨⟨fun t => .inl (.inl ?_), fun d A hd => by rw [hi.arrs]; exact hd⟩, fun d cs' hd => ⟨cs', hbx2 _ hd, rfl, fun i c c' q1 q2 => by rw [q1] at q2; injection q2 with q2; exact .inl q2.symm⟩⟩
        show (foldS S (l.take n) vs).get t = T.get t
        by_cases hex : ∃ j, j < n ∧ dstAt l.toArray j = some t
        · obtain ⟨j, hj, hd⟩ := hex
          have hvj : j < vs.length := by omega
          rw [hi.got j t vs[j] hj (hcan j hj) hd (List.getElem?_eq_getElem hvj)]
          cases hoj : l.toArray[j]? with
          | none => simp [dstAt, hoj] at hd
          | some oj =>
            refine foldS_get _ _ S t j oj vs[j] (by rw [List.getElem?_take, if_pos hj]; simpa using hoj) (List.getElem?_eq_getElem hvj) (by simpa [dstAt, hoj] using hd) (fun j' o' hjj ho' => ?_)
            rw [List.getElem?_take] at ho'
            split at ho'
            · rename_i hj'
              intro hdd
              have ho2 : l.toArray[j']? = some o' := by simpa using ho'
              obtain ⟨_, _, _, hdk'⟩ := discB_spec hD hj'
              rcases (hdk' j t hj hd).1 with h | h
              · omega
              · exact h (by simp [dstAt, ho2, hdd])
            · cases ho'
        · rw [hi.no t (fun k hk _ hdk => hex ⟨k, hk, hdk⟩)]
          refine foldS_get_no _ _ S t (fun k o ho hdk => ?_)
          rw [List.getElem?_take] at ho
          split at ho
          · rename_i hk
            have ho2 : l.toArray[k]? = some o := by simpa using ho
            exact hex ⟨k, hk, by simp [dstAt, ho2, hdk]⟩
          · cases ho
      have hsim' := hsim.weak hw (fun d c c' q1 q2 => hsim.boxOne d c c' (hbx2 _ q1) (hbx2 _ q2))
      have hdl : (l.drop n).length = l.toArray.size - n := by simp
      have := wpAny_of_seq (md := .any) (ops := l.toArray) (P := P) (l.drop n) n (canon l.toArray.size n) a w (Q' := fun e a' w' => e = .normal ∧ ∃ K' n' S', Q S' ∧ Sim N K0 w0 S' K' n' a' w') (fun j => by simp [List.getElem?_drop]) (by rw [hdl]; exact hseq)
        (wpList_mono_ (fun e a' w' hh => by
          exact hh) _ _ _ (h3 K nm a w hsim'))
      rwa [hdl] at this)
    n (Array.replicate l.toArray.size false) S K nm a _ (cntU_false _ n (by omega)) inv0
    ⟨rfl, fun j t v hj hl => (by rw [getD_in (by simp; omega) (getD_replicate_false _ _)] at hl; cases hl), fun t _ => rfl, fun p hp => hp, fun d cs hp => .inl hp, fun j d cs0 hj hl => (by rw [getD_in (by simp; omega) (getD_replicate_false _ _)] at hl; cases hl), fun j d cs1 hj hl => (by rw [getD_in (by simp; omega) (getD_replicate_false _ _)] at hl; cases hl), fun j d cs hj _ hq => ⟨(freshS_box hfr (hbx j d cs hq)).1, (freshS_box hfr (hbx j d cs hq)).2.1⟩⟩ hsim.drew
  rwa [show n + (l.toArray.size - n) = l.toArray.size by omega] at H
theorem CT.seqDS {QE : Exit → St → Prop} {c2 : Code} {id : Nat} {l : List Oper} {tm : List (Nat × AV)} {bs : List (Nat × List AV)} {ar : List (Nat × Arr)} (n : Nat) (hm : P.follows .mixedOrders = true) (hB : headB l.toArray N n = true)
    (h : HS P N K0 w0 l.toArray (l.take n) ⟨tm, bs, ar⟩ [] [] fun vs its S' => freshS ⟨tm, bs, ar⟩ vs its = true ∧ LT P N K0 w0 l.toArray (l.drop n) S' fun S'' => CT P N K0 w0 c2 S'' QE) : CT P N K0 w0 ((Code.region id l.toArray true).seq c2) ⟨tm, bs, ar⟩ QE := by
  refine CT.seq ?_
  intro K nm a w hsim
  refine wp_mono (wp_region_any hm (draw_anyS n hB h hsim)) ?_
  rintro e a' w' ⟨rfl, K', n', S', h1, h2⟩
  exact ⟨K', n', S', h1, h2⟩
section
variable {l : List Oper} {opn : Op} {ty : TypeId} {pos : String} {aft : Array Edge} {vs : List AV} {its : List HI} {Q : List AV → List HI → St → Prop} {tm : List (Nat × AV)} {bs : List (Nat × List AV)} {ar : List (Nat × Arr)}
theorem HS.val1 {t : Nat} {v : AV} (h : OpH P N K0 w0 ⟨some t, opn, ty, pos, aft, none⟩ ⟨tm, bs, ar⟩ v) (k : HS P N K0 w0 ops l ⟨(t, v) :: tm, bs, ar⟩ (vs ++ [v]) (its ++ [.val]) Q) : HS P N K0 w0 ops (⟨some t, opn, ty, pos, aft, none⟩ :: l) ⟨tm, bs, ar⟩ vs its Q :=
  .inl ⟨v, .inl ⟨rfl, h⟩, k⟩
theorem HS.box {e : TypeId} {t : Nat} {z : Value} {cs : List AV} (hz : ((P.info? e).bind (·.zero)) = some z) (hcs : z.cells.toList.map AV.val = cs) (hd : t < N) (k : HS P N K0 w0 ops l ⟨(t, .ptr t 0) :: tm, bs, ar⟩ (vs ++ [.ptr t 0]) (its ++ [.box t cs]) Q) :
    HS P N K0 w0 ops (⟨some t, .alloc e, ty, pos, aft, none⟩ :: l) ⟨tm, bs, ar⟩ vs its Q :=
  .inr (.inl ⟨t, cs, ⟨e, z, ty, pos, aft, rfl, hz, hcs⟩, hd, k⟩)
theorem HS.put {t : TypeId} {d : Nat} {y : Operand} {v : Value} {cs0 cs1 : List AV} (j : Nat) (hj : its[j]? = some (.box d cs0)) (hx : St.opv ⟨tm, bs, ar⟩ (.tmp d) = .ptr d 0) (hy : St.opv ⟨tm, bs, ar⟩ y = .val v) (hk : (P.info? t).map (·.size) = some v.cells.size) (ho1 : v.cells.all (·.oneCell') = true) (hsz : v.cells.size = cs0.length) (hcs : v.cells.toList.map AV.val = cs1)
    (k : HS P N K0 w0 ops l ⟨tm, bs, ar⟩ (vs ++ [.dead]) (its ++ [.put d cs1]) Q) : HS P N K0 w0 ops (⟨none, .store t (.tmp d) y, ty, pos, aft, none⟩ :: l) ⟨tm, bs, ar⟩ vs its Q :=
  .inr (.inr ⟨d, cs0, cs1, j, hj, ⟨t, y, v, ty, pos, aft, rfl, hx, hy, hk, ho1, hsz, hcs⟩, k⟩)
theorem HS.done (h : Q vs its ⟨tm, finB its ++ bs, ar⟩) : HS P N K0 w0 ops [] ⟨tm, bs, ar⟩ vs its Q := h
end
end
end Go.Proofs.Ytnklfbeiagkhiaa
