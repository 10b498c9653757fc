/- Trees of bits: what the walks ask of the rows. -/
import Derived.Test.YtkfmammkbmhfaaaXTriQ
import Derived.Test.YtkfmammkbmhfaaaXTriD
namespace Go.Proofs.Ytkfmammkbmhfaaa
set_option linter.unusedSimpArgs false
set_option linter.unusedVariables false
open Go
theorem putTo_len (l : List Nd) (f : List Nat) (a : A2) : ∀ k, (putTo l f a k).1.length ≤ l.length + k ∧ l.length ≤ (putTo l f a k).1.length
  | 0 => ⟨Nat.le_refl _, Nat.le_refl _⟩
  | k + 1 => by
    have ih := putTo_len l f a k
    have est : putTo l f a (k + 1) = stepT (putTo l f a k).1 (putTo l f a k).2.1 (putTo l f a k).2.2 (abit a k) := rfl
    rw [est]
    generalize putTo l f a k = T at *
    unfold stepT
    split
    · simp only [setCh_len]
      unfold freshT
      split <;> simp <;> omega
    · exact ⟨by simp only; omega, by simp only; omega⟩
section
variable {w : Int} {l : List Nd} {f : List Nat} {rs : List Rte}
theorem Tri.way (h : Tri w l f rs) : Way l := by
  obtain ⟨pos, dom, act, h1, h2, h3, h4⟩ := h
  refine ⟨fun a k => ?_, h1.zero⟩
  rw [h1.wlk]
  by_cases hz : pos (fstB a k) = 0
  · rw [hz]; have := h1.len; omega
  · exact h1.lt _ hz
theorem Tri.putOK (h : Tri w l f rs) (a : A2) {n : Nat} (hn : n ≤ 128) (hl : l.length ≤ 400000) : PutOK l f a n := by
  obtain ⟨pos, dom, act, h1, h2, h3, h4⟩ := h
  have key : ∀ k, k ≤ n → (putTo l f a k).2.2 < (putTo l f a k).1.length ∧ ((putTo l f a k).1.length ≤ 500000 ∧ (putTo l f a k).2.1.length ≤ 500000) ∧ (∀ i ∈ (putTo l f a k).2.1, i < (putTo l f a k).1.length) ∧ (putTo l f a k).2.2 < (freshT (putTo l f a k).1 (putTo l f a k).2.1).1.length := by
    intro k hk
    obtain ⟨pos', dom', g1, g2, g3, g4⟩ := h1.putTo a k
    have hlt := g1.lt _ g3
    have hln := putTo_len l f a k
    have hcnt := g1.cnt
    have hfr := g1.fresh
    rw [g2]
    refine ⟨hlt, ⟨by omega, by omega⟩, fun i hi => (g1.fr i hi).2.1, Nat.lt_of_lt_of_le hlt hfr.2.2.2.2.2.1⟩
  exact ⟨fun k hk => (key k hk).1, fun k hk => (key k hk).2.1, fun k hk => (key k hk).2.2.1, fun k hk => (key k hk).2.2.2⟩
theorem Tri.free_le (h : Tri w l f rs) : f.length ≤ l.length := by
  obtain ⟨pos, dom, act, h1, h2, h3, h4⟩ := h
  have := h1.cnt
  omega
theorem putL_len (l : List Nd) (f : List Nat) (a : A2) {n : Nat} (hn : n ≤ 128) (v : Int) : (putL l f a n v).length ≤ l.length + 128 := by
  have := putTo_len l f a n
  unfold putL sayT
  rw [List.length_set]
  omega
theorem pruneTo_len (a : A2) (way : Nat → Nat) : ∀ (k : Nat) (l : List Nd) (f : List Nat), (pruneTo a way k l f).1.length = l.length
  | 0, _, _ => rfl
  | k + 1, l, f => by
    unfold pruneTo
    split
    · rw [pruneTo_len a way k, setCh_len]
    · rfl
theorem dropLF_len (l : List Nd) (f : List Nat) (a : A2) (n : Nat) : (dropLF l f a n).1.length = l.length := by
  unfold dropLF
  rw [pruneTo_len]
  simp [sayT]
theorem Tri.ndAct (h : Tri w l f rs) {p : Pfx} (hp : Canon p) : ndAct l p = getR rs p := h.get hp
theorem getR_ne {rs : List Rte} (h : ∀ r ∈ rs, 1 ≤ r.act ∧ r.act ≤ 255) (p : Pfx) : getR rs p ≠ 0 ↔ ∃ r, findR rs p = some r := by
  unfold getR
  cases hf : findR rs p with
  | none => simp
  | some r => simp only [Option.some.injEq, exists_eq', iff_true]; have := h r (findR_some hf).1; omega
end
end Go.Proofs.Ytkfmammkbmhfaaa

/- What law07.awake does. -/
namespace Go.Proofs.Ytkfmammkbmhfaaa
set_option linter.unusedSimpArgs false
set_option linter.unusedVariables false
open Go Go.RowKit Go.Shelf
def awA : A2 := ⟨720575940379279360, 0⟩
def awB : A2 := ⟨720575940379279365, 0⟩
def awP : Pfx := ⟨awA, 8⟩
theorem aw_ok : awA.ok := ⟨⟨by decide, by decide⟩, ⟨by decide, by decide⟩⟩
theorem aw_okB : awB.ok := ⟨⟨by decide, by decide⟩, ⟨by decide, by decide⟩⟩
theorem aw_make : pMake awA 8 = awP := by decide +kernel
theorem aw_canon : Canon awP := by
  have := (make_canon (a := awA) aw_ok (n := 8) (by omega) (by omega)).1
  rwa [aw_make] at this
theorem aw_put : putL [nd0, nd0] [] awA 8 7 = [nd0, ⟨2, 0, 0⟩, ⟨3, 0, 0⟩, ⟨4, 0, 0⟩, ⟨5, 0, 0⟩, ⟨0, 6, 0⟩, ⟨7, 0, 0⟩, ⟨0, 8, 0⟩, ⟨9, 0, 0⟩, ⟨0, 0, 7⟩] ∧ putF [nd0, nd0] [] awA 8 = [] := by decide +kernel
theorem aw_best : (bst [nd0, ⟨2, 0, 0⟩, ⟨3, 0, 0⟩, ⟨4, 0, 0⟩, ⟨5, 0, 0⟩, ⟨0, 6, 0⟩, ⟨7, 0, 0⟩, ⟨0, 8, 0⟩, ⟨9, 0, 0⟩, ⟨0, 0, 7⟩] awB 33) = ⟨awP, 7⟩ := by decide +kernel
theorem aw_tri : Tri 32 (putL [nd0, nd0] [] awA 8 7) (putF [nd0, nd0] [] awA 8) (putR (dropR [] awP) ⟨awP, 7⟩) := (Tri.start (w := 32) (.inl rfl)).put (r := ⟨awP, 7⟩) aw_canon ⟨by decide, by decide⟩ (by decide)
attribute [local irreducible] OpH OpT LT CT HT Good GoodO
theorem arm11_1g {p : Prop} (h : p := by first | exact OpH.assign (v := .val _) rfl | exact OpH.assign (v := .sl _ _) rfl | exact OpH.assign (v := .row _ _ _ _) rfl | exact OpH.assign (v := .full _ _) rfl | exact OpH.assign (v := .ptr _ _) rfl | exact OpH.assign (v := .cptr _) rfl | exact OpH.assign (v := .cloB _ _) rfl | exact OpH.assign (v := .clo _ _) rfl | exact OpH.assign (v := .pr _) rfl | exact OpH.assign (v := .arow _) rfl | exact OpH.assign (v := .aptr _ _ _ _) rfl | exact OpH.assign (v := .asub _ _ _ _) rfl | exact OpH.assign (v := .tup _) rfl | exact OpH.move (v := .val _) rfl | exact OpH.move (v := .sl _ _) rfl | exact OpH.move (v := .row _ _ _ _) rfl | exact OpH.move (v := .full _ _) rfl | exact OpH.move (v := .ptr _ _) rfl | exact OpH.move (v := .cptr _) rfl | exact OpH.move (v := .cloB _ _) rfl | exact OpH.move (v := .clo _ _) rfl | exact OpH.move (v := .pr _) rfl | exact OpH.move (v := .arow _) rfl | exact OpH.move (v := .aptr _ _ _ _) rfl | exact OpH.move (v := .asub _ _ _ _) rfl | exact OpH.move (v := .tup _) rfl | exact OpH.extract (v := .val _) rfl rfl (fun _ h => by cases h) | exact OpH.extract (v := .sl _ _) rfl rfl (fun _ h => by cases h) | exact OpH.extract (v := .row _ _ _ _) rfl rfl (fun _ h => by cases h) | exact OpH.extract (v := .full _ _) rfl rfl (fun _ h => by cases h) | exact OpH.extract (v := .ptr _ _) rfl rfl (fun _ h => by cases h) | exact OpH.bin rfl rfl (pb_neq_t (by first | omega | assumption)) | exact OpH.bin rfl rfl (pb_neq_f (by first | omega | assumption)) | exact OpH.bin rfl rfl (pb_neq) | exact OpH.eqNilB (t := 22) rfl (by kernel_rfl) | exact OpH.bin (xt := 22) rfl rfl (pb_eqlNil (by kernel_rfl)) | exact OpH.pick (b := true) (v := .val _) rfl rfl | exact OpH.pick (b := false) (v := .val _) rfl rfl | exact OpH.pick (b := true) (v := .sl _ _) rfl rfl | exact OpH.pick (b := false) (v := .sl _ _) rfl rfl | exact OpH.pick (b := true) (v := .row _ _ _ _) rfl rfl | exact OpH.pick (b := false) (v := .row _ _ _ _) rfl rfl | exact OpH.pick (b := true) (v := .full _ _) rfl rfl | exact OpH.pick (b := false) (v := .full _ _) rfl rfl | exact OpH.pickV rfl rfl rfl | exact build_31_0 rfl | exact OpH.build (t := 31) (cells := #[_, _]) (by kernel_rfl) rfl | exact OpH.callL Try.func40 rfl rfl rfl (g_pMake _ _ _) | exact build_35_0_1 rfl rfl | exact OpH.build (t := 35) (cells := #[_, _, _, _]) (by kernel_rfl) rfl | exact OpH.un rfl un_not | exact OpH.un rfl (un_neg (by omega)) | exact OpH.bin rfl rfl (pb_eql_t (by first | omega | assumption)) | exact OpH.bin rfl rfl (pb_eql_f (by first | omega | assumption)) | exact OpH.bin rfl rfl (pb_eql) | exact OpH.fieldC (s := 35) (f := 1) (off := 3) rfl (by kernel_rfl) rfl | exact OpH.fieldB (s := 35) (f := 1) (off := 3) rfl (by kernel_rfl) rfl | exact OpH.fieldA (s := 35) (f := 1) (off := 3) rfl (by kernel_rfl) rfl | exact OpH.loadC1 (t := 3) rfl (by kernel_rfl) rfl | exact OpH.loadB1 (t := 3) rfl rfl (by kernel_rfl) rfl | exact OpH.loadA1 (t := 3) rfl rfl rfl (map_at bd) (by kernel_rfl) rfl rfl) : p := h
set_option maxRecDepth 100000 in
set_option maxHeartbeats 2000000 in
theorem g_awake7 : Good Try.prog 11 [] (.val (.bool true)) := by
  have hT0 : Tri 32 [nd0, nd0] [] [] := Tri.start (.inl rfl)
  have gN := g_New 32 (.inl rfl)
  have gM : Good Try.prog 40 [.val (.agg #[.int .u64 awA.x, .int .u64 awA.y]), .val (.int .i64 8)] (.val (.agg #[.int .u64 awP.a.x, .int .u64 awP.a.y, .int .i64 awP.len])) := by
    have := g_pMake 720575940379279360 0 8
    rwa [show (⟨720575940379279360, 0⟩ : A2) = awA from rfl, aw_make] at this
  have gP := g_PutOk 32 0 (.inl rfl) [nd0, nd0] [] hT0.way ⟨awP, 7⟩ aw_canon.ok ⟨⟨aw_canon, by decide⟩, by decide, by decide⟩ false (by rw [hT0.ndAct aw_canon]; simp [getR, findR]) (.inr (by decide)) (by decide) (by decide) (hT0.putOK _ (by decide) (by decide))
  have hT1 := aw_tri
  rw [show (⟨awP, 7⟩ : Rte).p.a = awA from rfl, show (⟨awP, 7⟩ : Rte).p.len.toNat = 8 from rfl, show (⟨awP, 7⟩ : Rte).act = 7 from rfl, aw_put.1, aw_put.2] at gP
  rw [aw_put.1, aw_put.2] at hT1
  have gB := g_Best 32 1 (by decide) _ [] hT1.way awB aw_okB
  rw [aw_best] at gB
  have gNo := g_tNodes 32 1 [nd0, ⟨2, 0, 0⟩, ⟨3, 0, 0⟩, ⟨4, 0, 0⟩, ⟨5, 0, 0⟩, ⟨0, 6, 0⟩, ⟨7, 0, 0⟩, ⟨0, 8, 0⟩, ⟨9, 0, 0⟩, ⟨0, 0, 7⟩] [] (by decide) (by decide)
  have gL := g_tLen 32 1 [nd0, ⟨2, 0, 0⟩, ⟨3, 0, 0⟩, ⟨4, 0, 0⟩, ⟨5, 0, 0⟩, ⟨0, 6, 0⟩, ⟨7, 0, 0⟩, ⟨0, 8, 0⟩, ⟨9, 0, 0⟩, ⟨0, 0, 7⟩] []
  clear hT0 hT1
  refine Good.of_body (T := []) Try.func11 rfl rfl rfl ?_
  intro K0 w0 hno
  repeat' (first | (refine LT.consT ?_; refine T.callO Try.func9 rfl rfl gN rfl rfl rfl rfl rfl rfl (fun p _ _ => hno.2 _) rfl rfl (by decide) ?_) | (refine LT.consT ?_; refine T.callO Try.func10 rfl rfl gP rfl rfl rfl rfl rfl rfl (fun p _ _ => hno.2 _) rfl rfl (by decide) ?_) | refine CT.seqR ?_ | refine CT.region ?_ | refine CT.seq1 ?_ | refine CT.block ?_ | refine CT.condT rfl ?_ | refine CT.condF rfl ?_ | refine CT.condD rfl (fun _ => ?_) (fun _ => ?_) | refine CT.condN rfl (fun _ => ?_) (fun _ => ?_) | refine CT.cond rfl (fun _ => ?_) (fun _ => ?_) | refine CT.skip ?_ | refine CT.exit ?_ | refine CT.ret ?_ | refine LT.nil ?_ | refine HT.nil1 ?_ | (refine LT.consT ?_; (first | refine T.alloc (e := 35) (z := .agg #[.int .u64 0, .int .u64 0, .int .i64 0, .int .i64 0]) (cs := [.val (.int .u64 0), .val (.int .u64 0), .val (.int .i64 0), .val (.int .i64 0)]) (by kernel_rfl) rfl (by decide) rfl rfl ?_ | refine T.storeA (t := 35) rfl rfl rfl rfl (map_at bd) (by kernel_rfl) (by kernel_rfl) (Nat.le_of_ble_eq_true (by kernel_rfl)) rfl rfl rfl ?_ | refine T.store (t := 35) rfl rfl rfl (by kernel_rfl) (by kernel_rfl) (Nat.le_of_ble_eq_true (by kernel_rfl)) rfl rfl ?_)) | ((first | apply LT.cons1 | (apply LT.guard1; rfl; rfl; rfl; decide)); (first | exact OpH.callF Try.func40 rfl rfl rfl gM rfl | exact OpH.callT Try.func16 rfl rfl rfl gB rfl | exact OpH.callT Try.func28 rfl rfl rfl gNo rfl | exact OpH.callT Try.func13 rfl rfl rfl gL rfl | exact arm11_1g); decide) | refine LT.skip1 rfl rfl rfl (by decide) (by decide) ?_ | refine LT.skip2 rfl rfl (by decide) (by decide) ?_ | refine LT.partD rfl rfl (fun _ => ?_) (fun _ => ?_) | refine LT.partN rfl rfl (fun _ => ?_) (fun _ => ?_) | (refine LT.part1 rfl rfl (fun h => ?_) (fun h => ?_); (fail_if_success exact absurd h (by decide)); rotate_left; (fail_if_success exact absurd h (by decide)); rotate_left))
  refine ⟨by first | exact .inl rfl | exact .inr rfl, _, (.cons (.tmp 0 (A := .val _) rfl (fun _ h => by cases h)) .nil), ?_, rfl⟩
  rfl
end Go.Proofs.Ytkfmammkbmhfaaa
