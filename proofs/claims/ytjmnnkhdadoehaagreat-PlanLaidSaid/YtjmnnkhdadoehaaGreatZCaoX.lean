/- cao.empty, writes, walk, Insert. -/
import Derived.Test.YtjmnnkhdadoehaaGreatZMergeF
import Derived.Test.YtjmnnkhdadoehaaGreatZWalkR5
namespace Go.Proofs.YtjmnnkhdadoehaaGreat
set_option linter.unusedSimpArgs false
set_option linter.unusedVariables false
open Go Go.RowKit Go.Shelf
theorem emFirst_start (l : List Slt) (k : Nat) : emFirst l k k = -1 := by
  rcases emFirst_spec l (Nat.le_refl k) with ⟨h, _⟩ | ⟨r, _, h1, h2, _⟩
  · exact h
  · omega
theorem emFirst_step (l : List Slt) {k m : Nat} (h : k ≤ m) : emFirst l k (m + 1) = if (nth l m).valid = true ∨ 0 ≤ emFirst l k m then emFirst l k m else (m : Int) := by
  rcases emFirst_spec l h with ⟨h1, h2⟩ | ⟨r, h1, h2, h3, h4, h5⟩
  · rcases emFirst_spec l (show k ≤ m + 1 by omega) with ⟨g1, g2⟩ | ⟨r, g1, g2, g3, g4, g5⟩
    · rw [g1, h1, if_pos (.inl (g2 m h (by omega)))]
    · have e : r = m := by
        refine Classical.byContradiction fun hne => ?_
        rw [h2 r g2 (by omega)] at g4; cases g4
      subst e
      rw [g1, h1, if_neg (by rw [g4]; rintro (h | h); cases h; omega)]
  · rw [h1, if_pos (.inr (by omega))]
    rcases emFirst_spec l (show k ≤ m + 1 by omega) with ⟨g1, g2⟩ | ⟨r', g1, g2, g3, g4, g5⟩
    · rw [g2 r h2 (by omega)] at h4; cases h4
    · rw [g1]
      congr 1
      rcases Nat.lt_trichotomy r r' with h | h | h
      · rw [g5 r h2 h] at h4; cases h4
      · exact h.symm
      · rw [h5 r' g2 h] at g4; cases g4
theorem emLast_start (l : List Slt) (k : Nat) : emLast l k k = -1 := by
  rcases emLast_spec l k k with ⟨h, _⟩ | ⟨r, _, h1, h2, _⟩
  · exact h
  · omega
theorem emLast_step (l : List Slt) {k m : Nat} (h : k ≤ m) : emLast l k (m + 1) = if (nth l m).valid = true then emLast l k m else (m : Int) := by
  by_cases hv : (nth l m).valid = true
  · rw [if_pos hv]
    rcases emLast_spec l k (m + 1) with ⟨g1, g2⟩ | ⟨r, g1, g2, g3, g4, g5⟩
    · rcases emLast_spec l k m with ⟨h1, _⟩ | ⟨r, h1, h2, h3, h4, h5⟩
      · rw [g1, h1]
      · rw [g2 r h2 (by omega)] at h4; cases h4
    · have hrm : r ≠ m := fun e => by rw [e, hv] at g4; cases g4
      rcases emLast_spec l k m with ⟨h1, h2⟩ | ⟨r', h1, h2, h3, h4, h5⟩
      · rw [h2 r g2 (by omega)] at g4; cases g4
      · rw [g1, h1]
        congr 1
        rcases Nat.lt_trichotomy r r' with h | h | h
        · rw [g5 r' h (by omega)] at h4; cases h4
        · exact h
        · rw [h5 r h (by omega)] at g4; cases g4
  · rw [if_neg hv]
    rcases emLast_spec l k (m + 1) with ⟨g1, g2⟩ | ⟨r, g1, g2, g3, g4, g5⟩
    · exact absurd (g2 m h (by omega)) hv
    · rw [g1]
      congr 1
      refine Classical.byContradiction fun hne => ?_
      exact hv (g5 m (by omega) (by omega))
theorem int_at {w : List Int} {k : Nat} (h : k < w.length) {v : Int} (e : nth w k = v) : (w.map encI)[k]? = some (encI v) := by
  rw [List.getElem?_map, List.getElem?_eq_getElem h, ← nth_at w h, e]; rfl
attribute [local irreducible] OpH OpT LT CT HT Good
theorem arm113_1 {p : Prop} (h : p := by first | exact OpH.assign (v := .val _) rfl | exact OpH.assign (v := .sl _ _) rfl | exact OpH.assign (v := .row _ _ _ _) rfl | exact OpH.assign (v := .full _ _) rfl | exact OpH.assign (v := .ptr _ _) rfl | exact OpH.assign (v := .cptr _) rfl | exact OpH.assign (v := .cloB _ _) rfl | exact OpH.assign (v := .clo _ _) rfl | exact OpH.assign (v := .pr _) rfl | exact OpH.assign (v := .arow _) rfl | exact OpH.assign (v := .aptr _ _ _ _) rfl | exact OpH.assign (v := .asub _ _ _ _) rfl | exact OpH.assign (v := .tup _) rfl | exact OpH.move (v := .val _) rfl | exact OpH.move (v := .sl _ _) rfl | exact OpH.move (v := .row _ _ _ _) rfl | exact OpH.move (v := .full _ _) rfl | exact OpH.move (v := .ptr _ _) rfl | exact OpH.move (v := .cptr _) rfl | exact OpH.move (v := .cloB _ _) rfl | exact OpH.move (v := .clo _ _) rfl | exact OpH.move (v := .pr _) rfl | exact OpH.move (v := .arow _) rfl | exact OpH.move (v := .aptr _ _ _ _) rfl | exact OpH.move (v := .asub _ _ _ _) rfl | exact OpH.move (v := .tup _) rfl | exact OpH.bin rfl rfl (pb_lss_t (by omega)) | exact OpH.bin rfl rfl (pb_lss_f (by omega)) | exact OpH.bin rfl rfl (pb_lss) | exact OpH.indexS (t := 30) (k := 7) rfl slP rfl rfl (by kernel_rfl) (map_at bd) rfl | exact OpH.fieldC (s := 48) (f := 0) (off := 0) rfl (by kernel_rfl) rfl | exact OpH.fieldB (s := 48) (f := 0) (off := 0) rfl (by kernel_rfl) rfl | exact OpH.loadC1 (t := 4) rfl (by kernel_rfl) rfl | exact OpH.loadB1 (t := 4) rfl rfl (by kernel_rfl) rfl | exact OpH.un rfl un_not | exact OpH.un rfl (un_neg (by omega)) | exact OpH.pick (b := true) (v := .val _) rfl rfl | exact OpH.pick (b := false) (v := .val _) rfl rfl | exact OpH.pick (b := true) (v := .sl _ _) rfl rfl | exact OpH.pick (b := false) (v := .sl _ _) rfl rfl | exact OpH.pick (b := true) (v := .row _ _ _ _) rfl rfl | exact OpH.pick (b := false) (v := .row _ _ _ _) rfl rfl | exact OpH.pick (b := true) (v := .full _ _) rfl rfl | exact OpH.pick (b := false) (v := .full _ _) rfl rfl | exact OpH.pickV rfl rfl rfl | exact OpH.bin rfl rfl (pb_inc (by omega)) | exact OpH.bin rfl rfl (pb_addN rfl (by omega)) | exact OpH.bin rfl rfl (pb_add (by omega)) | exact OpH.bin rfl rfl (pb_addw)) : p := h
set_option maxRecDepth 100000 in
set_option maxHeartbeats 2000000 in
theorem g_emptyF (l : List Slt) (k0 n : Nat) (h0 : k0 ≤ n) (hn : n ≤ l.length) (hl : l.length ≤ 65536) : Good Tryz.prog 113 [.sl 7 (l.map encS), .val (.int .i64 k0), .val (.int .i64 n), .val (.bool false)] (.val (.int .i64 (emFirst l k0 n))) := by
  refine Good.of_body (T := [(0, _), (1, _), (2, _), (3, _)]) Tryz.func113 rfl rfl rfl ?_
  intro K0 w0 hno
  repeat' (first | refine CT.seqR ?_ | refine CT.region ?_ | refine CT.seq1 ?_ | refine CT.block ?_ | refine CT.condT rfl ?_ | refine CT.condF rfl ?_ | refine CT.condD rfl (fun _ => ?_) (fun _ => ?_) | refine CT.condN rfl (fun _ => ?_) (fun _ => ?_) | refine CT.cond rfl (fun _ => ?_) (fun _ => ?_) | refine CT.skip ?_ | refine CT.exit ?_ | refine CT.ret ?_ | refine LT.nil ?_ | refine HT.nil1 ?_ | ((first | apply LT.cons1 | (apply LT.guard1; rfl; rfl; rfl; decide)); (first | exact arm113_1); decide) | refine LT.skip1 rfl rfl rfl (by decide) (by decide) ?_ | refine LT.skip2 rfl rfl (by decide) (by decide) ?_ | refine LT.partD rfl rfl (fun _ => ?_) (fun _ => ?_) | refine LT.partN rfl rfl (fun _ => ?_) (fun _ => ?_) | (refine LT.part1 rfl rfl (fun h => ?_) (fun h => ?_); (fail_if_success exact absurd h (by decide)); rotate_left; (fail_if_success exact absurd h (by decide)); rotate_left))
  refine CT.loopX (fun k : Nat => (⟨[(0, .sl 7 (l.map encS)), (2, .val (.int .i64 n)), (3, .val (.bool false)), (9, .val (.int .i64 (emFirst l k0 k))), (10, .val (.int .i64 k))], [], []⟩ : St))
    (fun k => k0 ≤ k ∧ k ≤ n) (fun k => n - k) k0 ?_ ⟨by omega, by omega⟩ ?_
  · rw [emFirst_start]
    (apply Sub.mk; (focus (repeat (first | exact .nil | refine .other (.keep rfl rfl) ?_ | refine .other (.aref rfl rfl rfl) ?_ | refine .other (.val rfl (by first | rfl | (congr 1; first | omega | assumption | (symm; assumption)) | (simp; omega))) ?_ | refine .other .dead ?_ | refine .other (.sl rfl (.row _ _ _ _) rfl) ?_ | refine .other (.sl rfl (.sl _ _) rfl) ?_ | refine .other (.sl rfl (.full _ _) rfl) ?_ | refine .other (.slNil rfl rfl) ?_ | refine .rowNil rfl rfl rfl ?_ | refine .row rfl (by first | rfl | assumption | (rw [← List.map_append]; first | done | rfl | congr 1)) rfl rfl ?_))); (focus (repeat (first | exact .nil | refine KeepB.same rfl rfl rfl ?_ | refine KeepB.sameA rfl rfl rfl ?_))); (focus (repeat (first | exact .nil | refine KeepA.cons rfl (by first | rfl | assumption | exact List.map_set | exact List.map_set.symm | (rw [← List.map_append]; first | done | rfl | congr 1) | (congr 1; first | omega | assumption)) ?_))))
  rintro k ⟨h1, h2⟩
  by_cases hlt : k < n
  · have hkl : k < l.length := by omega
    have hst := emFirst_step l h1
    cases hs : l[k] with
    | mk v e =>
      have hat := slot_at hkl hs
      rw [nth_is hkl hs] at hst
      generalize emFirst l k0 k = o at hst ⊢
      have hcase : (v = true ∨ 0 ≤ o) ∨ (v = false ∧ o < 0) := by
        cases v
        · by_cases h : 0 ≤ o
          · exact .inl (.inr h)
          · exact .inr ⟨rfl, by omega⟩
        · exact .inl (.inl rfl)
      rcases hcase with hc | ⟨rfl, ho⟩
      · rw [if_pos hc] at hst
        cases v with
        | true =>
          repeat' (first | refine CT.seqR ?_ | refine CT.region ?_ | refine CT.seq1 ?_ | refine CT.block ?_ | refine CT.condT rfl ?_ | refine CT.condF rfl ?_ | refine CT.condD rfl (fun _ => ?_) (fun _ => ?_) | refine CT.condN rfl (fun _ => ?_) (fun _ => ?_) | refine CT.cond rfl (fun _ => ?_) (fun _ => ?_) | refine CT.skip ?_ | refine CT.exit ?_ | refine CT.ret ?_ | refine LT.nil ?_ | refine HT.nil1 ?_ | ((first | apply LT.cons1 | (apply LT.guard1; rfl; rfl; rfl; decide)); (first | exact OpH.indexS (t := 30) (k := 7) (j := k) rfl slP rfl rfl (by kernel_rfl) hat rfl | exact arm113_1); decide) | refine LT.skip1 rfl rfl rfl (by decide) (by decide) ?_ | refine LT.skip2 rfl rfl (by decide) (by decide) ?_ | refine LT.partD rfl rfl (fun _ => ?_) (fun _ => ?_) | refine LT.partN rfl rfl (fun _ => ?_) (fun _ => ?_) | (refine LT.part1 rfl rfl (fun h => ?_) (fun h => ?_); (fail_if_success exact absurd h (by decide)); rotate_left; (fail_if_success exact absurd h (by decide)); rotate_left))
          refine ⟨k + 1, ⟨by omega, by omega⟩, by omega, ?_⟩
          rw [hst]
          (apply Sub.mk; (focus (repeat (first | exact .nil | refine .other (.keep rfl rfl) ?_ | refine .other (.aref rfl rfl rfl) ?_ | refine .other (.val rfl (by first | rfl | (congr 1; first | omega | assumption | (symm; assumption)) | (simp; omega))) ?_ | refine .other .dead ?_ | refine .other (.sl rfl (.row _ _ _ _) rfl) ?_ | refine .other (.sl rfl (.sl _ _) rfl) ?_ | refine .other (.sl rfl (.full _ _) rfl) ?_ | refine .other (.slNil rfl rfl) ?_ | refine .rowNil rfl rfl rfl ?_ | refine .row rfl (by first | rfl | assumption | (rw [← List.map_append]; first | done | rfl | congr 1)) rfl rfl ?_))); (focus (repeat (first | exact .nil | refine KeepB.same rfl rfl rfl ?_ | refine KeepB.sameA rfl rfl rfl ?_))); (focus (repeat (first | exact .nil | refine KeepA.cons rfl (by first | rfl | assumption | exact List.map_set | exact List.map_set.symm | (rw [← List.map_append]; first | done | rfl | congr 1) | (congr 1; first | omega | assumption)) ?_))))
        | false =>
          have ho : 0 ≤ o := by rcases hc with h | h; cases h; exact h
          repeat' (first | refine CT.seqR ?_ | refine CT.region ?_ | refine CT.seq1 ?_ | refine CT.block ?_ | refine CT.condT rfl ?_ | refine CT.condF rfl ?_ | refine CT.condD rfl (fun _ => ?_) (fun _ => ?_) | refine CT.condN rfl (fun _ => ?_) (fun _ => ?_) | refine CT.cond rfl (fun _ => ?_) (fun _ => ?_) | refine CT.skip ?_ | refine CT.exit ?_ | refine CT.ret ?_ | refine LT.nil ?_ | refine HT.nil1 ?_ | ((first | apply LT.cons1 | (apply LT.guard1; rfl; rfl; rfl; decide)); (first | exact OpH.indexS (t := 30) (k := 7) (j := k) rfl slP rfl rfl (by kernel_rfl) hat rfl | exact arm113_1); decide) | refine LT.skip1 rfl rfl rfl (by decide) (by decide) ?_ | refine LT.skip2 rfl rfl (by decide) (by decide) ?_ | refine LT.partD rfl rfl (fun _ => ?_) (fun _ => ?_) | refine LT.partN rfl rfl (fun _ => ?_) (fun _ => ?_) | (refine LT.part1 rfl rfl (fun h => ?_) (fun h => ?_); (fail_if_success exact absurd h (by decide)); rotate_left; (fail_if_success exact absurd h (by decide)); rotate_left))
          refine ⟨k + 1, ⟨by omega, by omega⟩, by omega, ?_⟩
          rw [hst]
          (apply Sub.mk; (focus (repeat (first | exact .nil | refine .other (.keep rfl rfl) ?_ | refine .other (.aref rfl rfl rfl) ?_ | refine .other (.val rfl (by first | rfl | (congr 1; first | omega | assumption | (symm; assumption)) | (simp; omega))) ?_ | refine .other .dead ?_ | refine .other (.sl rfl (.row _ _ _ _) rfl) ?_ | refine .other (.sl rfl (.sl _ _) rfl) ?_ | refine .other (.sl rfl (.full _ _) rfl) ?_ | refine .other (.slNil rfl rfl) ?_ | refine .rowNil rfl rfl rfl ?_ | refine .row rfl (by first | rfl | assumption | (rw [← List.map_append]; first | done | rfl | congr 1)) rfl rfl ?_))); (focus (repeat (first | exact .nil | refine KeepB.same rfl rfl rfl ?_ | refine KeepB.sameA rfl rfl rfl ?_))); (focus (repeat (first | exact .nil | refine KeepA.cons rfl (by first | rfl | assumption | exact List.map_set | exact List.map_set.symm | (rw [← List.map_append]; first | done | rfl | congr 1) | (congr 1; first | omega | assumption)) ?_))))
      · rw [if_neg (by rintro (h | h); cases h; omega)] at hst
        repeat' (first | refine CT.seqR ?_ | refine CT.region ?_ | refine CT.seq1 ?_ | refine CT.block ?_ | refine CT.condT rfl ?_ | refine CT.condF rfl ?_ | refine CT.condD rfl (fun _ => ?_) (fun _ => ?_) | refine CT.condN rfl (fun _ => ?_) (fun _ => ?_) | refine CT.cond rfl (fun _ => ?_) (fun _ => ?_) | refine CT.skip ?_ | refine CT.exit ?_ | refine CT.ret ?_ | refine LT.nil ?_ | refine HT.nil1 ?_ | ((first | apply LT.cons1 | (apply LT.guard1; rfl; rfl; rfl; decide)); (first | exact OpH.indexS (t := 30) (k := 7) (j := k) rfl slP rfl rfl (by kernel_rfl) hat rfl | exact arm113_1); decide) | refine LT.skip1 rfl rfl rfl (by decide) (by decide) ?_ | refine LT.skip2 rfl rfl (by decide) (by decide) ?_ | refine LT.partD rfl rfl (fun _ => ?_) (fun _ => ?_) | refine LT.partN rfl rfl (fun _ => ?_) (fun _ => ?_) | (refine LT.part1 rfl rfl (fun h => ?_) (fun h => ?_); (fail_if_success exact absurd h (by decide)); rotate_left; (fail_if_success exact absurd h (by decide)); rotate_left))
        refine ⟨k + 1, ⟨by omega, by omega⟩, by omega, ?_⟩
        rw [hst]
        (apply Sub.mk; (focus (repeat (first | exact .nil | refine .other (.keep rfl rfl) ?_ | refine .other (.aref rfl rfl rfl) ?_ | refine .other (.val rfl (by first | rfl | (congr 1; first | omega | assumption | (symm; assumption)) | (simp; omega))) ?_ | refine .other .dead ?_ | refine .other (.sl rfl (.row _ _ _ _) rfl) ?_ | refine .other (.sl rfl (.sl _ _) rfl) ?_ | refine .other (.sl rfl (.full _ _) rfl) ?_ | refine .other (.slNil rfl rfl) ?_ | refine .rowNil rfl rfl rfl ?_ | refine .row rfl (by first | rfl | assumption | (rw [← List.map_append]; first | done | rfl | congr 1)) rfl rfl ?_))); (focus (repeat (first | exact .nil | refine KeepB.same rfl rfl rfl ?_ | refine KeepB.sameA rfl rfl rfl ?_))); (focus (repeat (first | exact .nil | refine KeepA.cons rfl (by first | rfl | assumption | exact List.map_set | exact List.map_set.symm | (rw [← List.map_append]; first | done | rfl | congr 1) | (congr 1; first | omega | assumption)) ?_))))
  · obtain rfl : k = n := by omega
    repeat' (first | refine CT.seqR ?_ | refine CT.region ?_ | refine CT.seq1 ?_ | refine CT.block ?_ | refine CT.condT rfl ?_ | refine CT.condF rfl ?_ | refine CT.condD rfl (fun _ => ?_) (fun _ => ?_) | refine CT.condN rfl (fun _ => ?_) (fun _ => ?_) | refine CT.cond rfl (fun _ => ?_) (fun _ => ?_) | refine CT.skip ?_ | refine CT.exit ?_ | refine CT.ret ?_ | refine LT.nil ?_ | refine HT.nil1 ?_ | ((first | apply LT.cons1 | (apply LT.guard1; rfl; rfl; rfl; decide)); (first | exact arm113_1); decide) | refine LT.skip1 rfl rfl rfl (by decide) (by decide) ?_ | refine LT.skip2 rfl rfl (by decide) (by decide) ?_ | refine LT.partD rfl rfl (fun _ => ?_) (fun _ => ?_) | refine LT.partN rfl rfl (fun _ => ?_) (fun _ => ?_) | (refine LT.part1 rfl rfl (fun h => ?_) (fun h => ?_); (fail_if_success exact absurd h (by decide)); rotate_left; (fail_if_success exact absurd h (by decide)); rotate_left))
    refine ⟨by first | exact .inl rfl | exact .inr rfl, _, (.cons (.tmp 8 (A := .val _) rfl (fun _ h => by cases h)) .nil), ?_, rfl⟩
    rfl
set_option maxRecDepth 100000 in
set_option maxHeartbeats 2000000 in
theorem g_emptyL (l : List Slt) (k0 n : Nat) (h0 : k0 ≤ n) (hn : n ≤ l.length) (hl : l.length ≤ 65536) : Good Tryz.prog 113 [.sl 7 (l.map encS), .val (.int .i64 k0), .val (.int .i64 n), .val (.bool true)] (.val (.int .i64 (emLast l k0 n))) := by
  refine Good.of_body (T := [(0, _), (1, _), (2, _), (3, _)]) Tryz.func113 rfl rfl rfl ?_
  intro K0 w0 hno
  repeat' (first | refine CT.seqR ?_ | refine CT.region ?_ | refine CT.seq1 ?_ | refine CT.block ?_ | refine CT.condT rfl ?_ | refine CT.condF rfl ?_ | refine CT.condD rfl (fun _ => ?_) (fun _ => ?_) | refine CT.condN rfl (fun _ => ?_) (fun _ => ?_) | refine CT.cond rfl (fun _ => ?_) (fun _ => ?_) | refine CT.skip ?_ | refine CT.exit ?_ | refine CT.ret ?_ | refine LT.nil ?_ | refine HT.nil1 ?_ | ((first | apply LT.cons1 | (apply LT.guard1; rfl; rfl; rfl; decide)); (first | exact arm113_1); decide) | refine LT.skip1 rfl rfl rfl (by decide) (by decide) ?_ | refine LT.skip2 rfl rfl (by decide) (by decide) ?_ | refine LT.partD rfl rfl (fun _ => ?_) (fun _ => ?_) | refine LT.partN rfl rfl (fun _ => ?_) (fun _ => ?_) | (refine LT.part1 rfl rfl (fun h => ?_) (fun h => ?_); (fail_if_success exact absurd h (by decide)); rotate_left; (fail_if_success exact absurd h (by decide)); rotate_left))
  refine CT.loopX (fun k : Nat => (⟨[(0, .sl 7 (l.map encS)), (2, .val (.int .i64 n)), (3, .val (.bool true)), (9, .val (.int .i64 (emLast l k0 k))), (10, .val (.int .i64 k))], [], []⟩ : St))
    (fun k => k0 ≤ k ∧ k ≤ n) (fun k => n - k) k0 ?_ ⟨by omega, by omega⟩ ?_
  · rw [emLast_start]
    (apply Sub.mk; (focus (repeat (first | exact .nil | refine .other (.keep rfl rfl) ?_ | refine .other (.aref rfl rfl rfl) ?_ | refine .other (.val rfl (by first | rfl | (congr 1; first | omega | assumption | (symm; assumption)) | (simp; omega))) ?_ | refine .other .dead ?_ | refine .other (.sl rfl (.row _ _ _ _) rfl) ?_ | refine .other (.sl rfl (.sl _ _) rfl) ?_ | refine .other (.sl rfl (.full _ _) rfl) ?_ | refine .other (.slNil rfl rfl) ?_ | refine .rowNil rfl rfl rfl ?_ | refine .row rfl (by first | rfl | assumption | (rw [← List.map_append]; first | done | rfl | congr 1)) rfl rfl ?_))); (focus (repeat (first | exact .nil | refine KeepB.same rfl rfl rfl ?_ | refine KeepB.sameA rfl rfl rfl ?_))); (focus (repeat (first | exact .nil | refine KeepA.cons rfl (by first | rfl | assumption | exact List.map_set | exact List.map_set.symm | (rw [← List.map_append]; first | done | rfl | congr 1) | (congr 1; first | omega | assumption)) ?_))))
  rintro k ⟨h1, h2⟩
  by_cases hlt : k < n
  · have hkl : k < l.length := by omega
    have hst := emLast_step l h1
    cases hs : l[k] with
    | mk v e =>
      have hat := slot_at hkl hs
      rw [nth_is hkl hs] at hst
      generalize emLast l k0 k = o at hst ⊢
      cases v with
      | true =>
        rw [if_pos rfl] at hst
        repeat' (first | refine CT.seqR ?_ | refine CT.region ?_ | refine CT.seq1 ?_ | refine CT.block ?_ | refine CT.condT rfl ?_ | refine CT.condF rfl ?_ | refine CT.condD rfl (fun _ => ?_) (fun _ => ?_) | refine CT.condN rfl (fun _ => ?_) (fun _ => ?_) | refine CT.cond rfl (fun _ => ?_) (fun _ => ?_) | refine CT.skip ?_ | refine CT.exit ?_ | refine CT.ret ?_ | refine LT.nil ?_ | refine HT.nil1 ?_ | ((first | apply LT.cons1 | (apply LT.guard1; rfl; rfl; rfl; decide)); (first | exact OpH.indexS (t := 30) (k := 7) (j := k) rfl slP rfl rfl (by kernel_rfl) hat rfl | exact arm113_1); decide) | refine LT.skip1 rfl rfl rfl (by decide) (by decide) ?_ | refine LT.skip2 rfl rfl (by decide) (by decide) ?_ | refine LT.partD rfl rfl (fun _ => ?_) (fun _ => ?_) | refine LT.partN rfl rfl (fun _ => ?_) (fun _ => ?_) | (refine LT.part1 rfl rfl (fun h => ?_) (fun h => ?_); (fail_if_success exact absurd h (by decide)); rotate_left; (fail_if_success exact absurd h (by decide)); rotate_left))
        refine ⟨k + 1, ⟨by omega, by omega⟩, by omega, ?_⟩
        rw [hst]
        (apply Sub.mk; (focus (repeat (first | exact .nil | refine .other (.keep rfl rfl) ?_ | refine .other (.aref rfl rfl rfl) ?_ | refine .other (.val rfl (by first | rfl | (congr 1; first | omega | assumption | (symm; assumption)) | (simp; omega))) ?_ | refine .other .dead ?_ | refine .other (.sl rfl (.row _ _ _ _) rfl) ?_ | refine .other (.sl rfl (.sl _ _) rfl) ?_ | refine .other (.sl rfl (.full _ _) rfl) ?_ | refine .other (.slNil rfl rfl) ?_ | refine .rowNil rfl rfl rfl ?_ | refine .row rfl (by first | rfl | assumption | (rw [← List.map_append]; first | done | rfl | congr 1)) rfl rfl ?_))); (focus (repeat (first | exact .nil | refine KeepB.same rfl rfl rfl ?_ | refine KeepB.sameA rfl rfl rfl ?_))); (focus (repeat (first | exact .nil | refine KeepA.cons rfl (by first | rfl | assumption | exact List.map_set | exact List.map_set.symm | (rw [← List.map_append]; first | done | rfl | congr 1) | (congr 1; first | omega | assumption)) ?_))))
      | false =>
        rw [if_neg (by simp)] at hst
        by_cases ho : o < 0
        all_goals
          repeat' (first | refine CT.seqR ?_ | refine CT.region ?_ | refine CT.seq1 ?_ | refine CT.block ?_ | refine CT.condT rfl ?_ | refine CT.condF rfl ?_ | refine CT.condD rfl (fun _ => ?_) (fun _ => ?_) | refine CT.condN rfl (fun _ => ?_) (fun _ => ?_) | refine CT.cond rfl (fun _ => ?_) (fun _ => ?_) | refine CT.skip ?_ | refine CT.exit ?_ | refine CT.ret ?_ | refine LT.nil ?_ | refine HT.nil1 ?_ | ((first | apply LT.cons1 | (apply LT.guard1; rfl; rfl; rfl; decide)); (first | exact OpH.indexS (t := 30) (k := 7) (j := k) rfl slP rfl rfl (by kernel_rfl) hat rfl | exact arm113_1); decide) | refine LT.skip1 rfl rfl rfl (by decide) (by decide) ?_ | refine LT.skip2 rfl rfl (by decide) (by decide) ?_ | refine LT.partD rfl rfl (fun _ => ?_) (fun _ => ?_) | refine LT.partN rfl rfl (fun _ => ?_) (fun _ => ?_) | (refine LT.part1 rfl rfl (fun h => ?_) (fun h => ?_); (fail_if_success exact absurd h (by decide)); rotate_left; (fail_if_success exact absurd h (by decide)); rotate_left))
          refine ⟨k + 1, ⟨by omega, by omega⟩, by omega, ?_⟩
          rw [hst]
          (apply Sub.mk; (focus (repeat (first | exact .nil | refine .other (.keep rfl rfl) ?_ | refine .other (.aref rfl rfl rfl) ?_ | refine .other (.val rfl (by first | rfl | (congr 1; first | omega | assumption | (symm; assumption)) | (simp; omega))) ?_ | refine .other .dead ?_ | refine .other (.sl rfl (.row _ _ _ _) rfl) ?_ | refine .other (.sl rfl (.sl _ _) rfl) ?_ | refine .other (.sl rfl (.full _ _) rfl) ?_ | refine .other (.slNil rfl rfl) ?_ | refine .rowNil rfl rfl rfl ?_ | refine .row rfl (by first | rfl | assumption | (rw [← List.map_append]; first | done | rfl | congr 1)) rfl rfl ?_))); (focus (repeat (first | exact .nil | refine KeepB.same rfl rfl rfl ?_ | refine KeepB.sameA rfl rfl rfl ?_))); (focus (repeat (first | exact .nil | refine KeepA.cons rfl (by first | rfl | assumption | exact List.map_set | exact List.map_set.symm | (rw [← List.map_append]; first | done | rfl | congr 1) | (congr 1; first | omega | assumption)) ?_))))
  · obtain rfl : k = n := by omega
    repeat' (first | refine CT.seqR ?_ | refine CT.region ?_ | refine CT.seq1 ?_ | refine CT.block ?_ | refine CT.condT rfl ?_ | refine CT.condF rfl ?_ | refine CT.condD rfl (fun _ => ?_) (fun _ => ?_) | refine CT.condN rfl (fun _ => ?_) (fun _ => ?_) | refine CT.cond rfl (fun _ => ?_) (fun _ => ?_) | refine CT.skip ?_ | refine CT.exit ?_ | refine CT.ret ?_ | refine LT.nil ?_ | refine HT.nil1 ?_ | ((first | apply LT.cons1 | (apply LT.guard1; rfl; rfl; rfl; decide)); (first | exact arm113_1); decide) | refine LT.skip1 rfl rfl rfl (by decide) (by decide) ?_ | refine LT.skip2 rfl rfl (by decide) (by decide) ?_ | refine LT.partD rfl rfl (fun _ => ?_) (fun _ => ?_) | refine LT.partN rfl rfl (fun _ => ?_) (fun _ => ?_) | (refine LT.part1 rfl rfl (fun h => ?_) (fun h => ?_); (fail_if_success exact absurd h (by decide)); rotate_left; (fail_if_success exact absurd h (by decide)); rotate_left))
    refine ⟨by first | exact .inl rfl | exact .inr rfl, _, (.cons (.tmp 8 (A := .val _) rfl (fun _ h => by cases h)) .nil), ?_, rfl⟩
    rfl
theorem arm114_1 {p : Prop} (h : p := by first | exact OpH.assign (v := .val _) rfl | exact OpH.assign (v := .sl _ _) rfl | exact OpH.assign (v := .row _ _ _ _) rfl | exact OpH.assign (v := .full _ _) rfl | exact OpH.assign (v := .ptr _ _) rfl | exact OpH.assign (v := .cptr _) rfl | exact OpH.assign (v := .cloB _ _) rfl | exact OpH.assign (v := .clo _ _) rfl | exact OpH.assign (v := .pr _) rfl | exact OpH.assign (v := .arow _) rfl | exact OpH.assign (v := .aptr _ _ _ _) rfl | exact OpH.assign (v := .asub _ _ _ _) rfl | exact OpH.assign (v := .tup _) rfl | exact OpH.move (v := .val _) rfl | exact OpH.move (v := .sl _ _) rfl | exact OpH.move (v := .row _ _ _ _) rfl | exact OpH.move (v := .full _ _) rfl | exact OpH.move (v := .ptr _ _) rfl | exact OpH.move (v := .cptr _) rfl | exact OpH.move (v := .cloB _ _) rfl | exact OpH.move (v := .clo _ _) rfl | exact OpH.move (v := .pr _) rfl | exact OpH.move (v := .arow _) rfl | exact OpH.move (v := .aptr _ _ _ _) rfl | exact OpH.move (v := .asub _ _ _ _) rfl | exact OpH.move (v := .tup _) rfl | exact OpH.lenM (t := 168) rfl (.sl _ _) (by kernel_rfl) | exact OpH.lenM (t := 168) rfl (.row _ _ _ _) (by kernel_rfl) | exact OpH.lenM (t := 168) rfl (.full _ _) (by kernel_rfl) | exact OpH.len (t := 168) rfl slP (by kernel_rfl) | exact OpH.lenNil (t := 168) rfl (by kernel_rfl) | exact OpH.bin rfl rfl (pb_sub (by omega)) | exact OpH.bin rfl rfl (pb_subw) | exact OpH.bin rfl rfl (pb_gtr_t (by omega)) | exact OpH.bin rfl rfl (pb_gtr_f (by omega)) | exact OpH.bin rfl rfl (pb_gtr) | exact OpH.indexS (t := 168) (k := 1) rfl slP rfl rfl (by kernel_rfl) (map_at bd) rfl | exact OpH.loadC1 (t := 3) rfl (by kernel_rfl) rfl | exact OpH.loadB1 (t := 3) rfl rfl (by kernel_rfl) rfl | exact OpH.indexS (t := 30) (k := 7) rfl slP rfl rfl (by kernel_rfl) (map_at bd) rfl | exact loadC7 (t := 48) rfl (by kernel_rfl) | exact loadB7 (t := 48) rfl rfl (by kernel_rfl) rfl | exact build_50_0_1 rfl rfl | exact OpH.build (t := 50) (cells := #[_, _, _, _, _, _, _, _]) (by kernel_rfl) rfl | exact lit_37_1 rfl | exact OpH.indexS (t := 168) (k := 1) (j := 0) rfl slP rfl rfl (by kernel_rfl) (map_at bd) rfl | exact loadC6 (t := 46) rfl (by kernel_rfl) | exact loadB6 (t := 46) rfl rfl (by kernel_rfl) rfl | exact build_48_0_1 rfl rfl | exact OpH.build (t := 48) (cells := #[_, _, _, _, _, _, _]) (by kernel_rfl) rfl) : p := h
set_option maxRecDepth 100000 in
set_option maxHeartbeats 2000000 in
theorem g_writes (l : List Slt) (x : Ent) (w : List Int) (hw : 0 < w.length) (hin : ∀ v ∈ w, 0 ≤ v ∧ v < l.length) (hl : l.length ≤ 65536) (hwl : w.length ≤ 65536) : Good Tryz.prog 114 [.sl 7 (l.map encS), .sl 1 (w.map encI), .val (.agg #[.int .u64 x.w.v.x, .int .u64 x.w.v.y, .int .u64 x.w.m.x, .int .u64 x.w.m.y, .int .i64 x.len, .int .i64 x.act])] (.row 40 50 8 ((writesOf l x w).map encX)) := by
  refine Good.of_body (T := [(0, _), (1, _), (2, _)]) Tryz.func114 rfl rfl rfl ?_
  intro K0 w0 hno
  repeat' (first | refine CT.seqR ?_ | refine CT.seqD (id := 5) 15 (by kernel_rfl) (by kernel_rfl) ?_ | refine CT.seqD (id := 6) 8 (by kernel_rfl) (by kernel_rfl) ?_ | refine CT.draw (id := 5) 15 (by kernel_rfl) (by kernel_rfl) ?_ | refine CT.draw (id := 6) 8 (by kernel_rfl) (by kernel_rfl) ?_ | refine CT.region ?_ | refine CT.seq1 ?_ | refine CT.block ?_ | refine CT.condT rfl ?_ | refine CT.condF rfl ?_ | refine CT.condD rfl (fun _ => ?_) (fun _ => ?_) | refine CT.condN rfl (fun _ => ?_) (fun _ => ?_) | refine CT.cond rfl (fun _ => ?_) (fun _ => ?_) | refine CT.skip ?_ | refine CT.exit ?_ | refine CT.ret ?_ | refine LT.nil ?_ | refine HT.nil1 ?_ | (refine LT.consT ?_; (first | refine T.box (e := 46) (cs := [.val _, .val _, .val _, .val _, .val _, .val _]) rfl rfl (by decide) rfl rfl ?_ | refine T.appNil (t := 37) (e := 50) (k := 8) (bytes := 64) rfl rfl srP (by kernel_rfl) szP (by decide) rfl ?_ | refine T.app (t := 37) (e := 50) (k := 8) (bytes := 64) rfl rfl srP (by kernel_rfl) szP (by decide) rfl rfl ?_)) | ((first | apply LT.cons1 | apply HT.cons1); (first | exact arm114_1); (try decide)))
  refine CT.loopX (fun j : Nat => (⟨[(0, .sl 7 (l.map encS)), (1, .sl 1 (w.map encI)), (5, .ptr 5 0), (7, .row 7 50 8 ((writesTo l w j).map encX)), (8, .val (.int .i64 ((w.length : Int) - 1 - j)))], [(5, (encE x).map AV.val)], []⟩ : St))
    (fun j => j ≤ w.length - 1) (fun j => w.length - j) 0 ?_ (by omega) ?_
  · rw [show writesTo l w 0 = [] from rfl]
    (apply Sub.mk; (focus (repeat (first | exact .nil | refine .other (.keep rfl rfl) ?_ | refine .other (.aref rfl rfl rfl) ?_ | refine .other (.val rfl (by first | rfl | (congr 1; first | omega | assumption | (symm; assumption)) | (simp; omega))) ?_ | refine .other .dead ?_ | refine .other (.sl rfl (.row _ _ _ _) rfl) ?_ | refine .other (.sl rfl (.sl _ _) rfl) ?_ | refine .other (.sl rfl (.full _ _) rfl) ?_ | refine .other (.slNil rfl rfl) ?_ | refine .rowNil rfl rfl rfl ?_ | refine .row rfl (by first | rfl | assumption | (rw [← List.map_append]; first | done | rfl | congr 1)) rfl rfl ?_))); (focus (repeat (first | exact .nil | refine KeepB.same rfl rfl rfl ?_ | refine KeepB.sameA rfl rfl rfl ?_))); (focus (repeat (first | exact .nil | refine KeepA.cons rfl (by first | rfl | assumption | exact List.map_set | exact List.map_set.symm | (rw [← List.map_append]; first | done | rfl | congr 1) | (congr 1; first | omega | assumption)) ?_))))
  rintro j hj
  have hwl2 := writesTo_length l w j
  by_cases hlt : j < w.length - 1
  · have k1 : w.length - 1 - j < w.length := by omega
    have k2 : w.length - 2 - j < w.length := by omega
    obtain ⟨v1, e1⟩ : ∃ v, nth w (w.length - 1 - j) = v := ⟨_, rfl⟩
    obtain ⟨v2, e2⟩ : ∃ v, nth w (w.length - 2 - j) = v := ⟨_, rfl⟩
    have a1 := int_at k1 e1
    have a2 := int_at k2 e2
    have hv2 : 0 ≤ v2 ∧ v2 < l.length := by
      rw [← e2, nth_at _ k2]; exact hin _ (List.getElem_mem _)
    have k3 : v2.toNat < l.length := by omega
    obtain ⟨s, hs⟩ : ∃ s, l[v2.toNat] = s := ⟨_, rfl⟩
    have a3 := slot_at k3 hs
    have hst : writesTo l w (j + 1) = writesTo l w j ++ [⟨v1, s⟩] := by
      rw [writesTo_step]
      unfold wr1
      rw [e1, e2, nth_is k3 hs]
    repeat' (first | refine CT.seqR ?_ | refine CT.seqD (id := 5) 15 (by kernel_rfl) (by kernel_rfl) ?_ | refine CT.seqD (id := 6) 8 (by kernel_rfl) (by kernel_rfl) ?_ | refine CT.draw (id := 5) 15 (by kernel_rfl) (by kernel_rfl) ?_ | refine CT.draw (id := 6) 8 (by kernel_rfl) (by kernel_rfl) ?_ | refine CT.region ?_ | refine CT.seq1 ?_ | refine CT.block ?_ | refine CT.condT rfl ?_ | refine CT.condF rfl ?_ | refine CT.condD rfl (fun _ => ?_) (fun _ => ?_) | refine CT.condN rfl (fun _ => ?_) (fun _ => ?_) | refine CT.cond rfl (fun _ => ?_) (fun _ => ?_) | refine CT.skip ?_ | refine CT.exit ?_ | refine CT.ret ?_ | refine LT.nil ?_ | refine HT.nil1 ?_ | (refine LT.consT ?_; (first | refine T.box (e := 46) (cs := [.val _, .val _, .val _, .val _, .val _, .val _]) rfl rfl (by decide) rfl rfl ?_ | refine T.appNil (t := 37) (e := 50) (k := 8) (bytes := 64) rfl rfl srP (by kernel_rfl) szP (by decide) rfl ?_ | refine T.app (t := 37) (e := 50) (k := 8) (bytes := 64) rfl rfl srP (by kernel_rfl) szP (by decide) rfl rfl ?_)) | ((first | apply LT.cons1 | apply HT.cons1); (first | exact OpH.indexS (t := 168) (k := 1) (j := w.length - 1 - j) rfl slP rfl (by omega) (by kernel_rfl) a1 rfl | exact OpH.indexS (t := 168) (k := 1) (j := w.length - 2 - j) rfl slP rfl (by omega) (by kernel_rfl) a2 rfl | exact OpH.indexS (t := 30) (k := 7) (j := v2.toNat) rfl slP rfl (by omega) (by kernel_rfl) a3 rfl | exact arm114_1); (try decide)))
    refine ⟨j + 1, by omega, by omega, ?_⟩
    rw [hst]
    (apply Sub.mk; (focus (repeat (first | exact .nil | refine .other (.keep rfl rfl) ?_ | refine .other (.aref rfl rfl rfl) ?_ | refine .other (.val rfl (by first | rfl | (congr 1; first | omega | assumption | (symm; assumption)) | (simp; omega))) ?_ | refine .other .dead ?_ | refine .other (.sl rfl (.row _ _ _ _) rfl) ?_ | refine .other (.sl rfl (.sl _ _) rfl) ?_ | refine .other (.sl rfl (.full _ _) rfl) ?_ | refine .other (.slNil rfl rfl) ?_ | refine .rowNil rfl rfl rfl ?_ | refine .row rfl (by first | rfl | assumption | (rw [← List.map_append]; first | done | rfl | congr 1)) rfl rfl ?_))); (focus (repeat (first | exact .nil | refine KeepB.same rfl rfl rfl ?_ | refine KeepB.sameA rfl rfl rfl ?_))); (focus (repeat (first | exact .nil | refine KeepA.cons rfl (by first | rfl | assumption | exact List.map_set | exact List.map_set.symm | (rw [← List.map_append]; first | done | rfl | congr 1) | (congr 1; first | omega | assumption)) ?_))))
  · obtain rfl : j = w.length - 1 := by omega
    obtain ⟨v0, e0⟩ : ∃ v, nth w 0 = v := ⟨_, rfl⟩
    have a0 := int_at hw e0
    have ho : writesOf l x w = writesTo l w (w.length - 1) ++ [⟨v0, ⟨true, x⟩⟩] := by unfold writesOf; rw [e0]
    rw [ho]
    repeat' (first | refine CT.seqR ?_ | refine CT.seqD (id := 5) 15 (by kernel_rfl) (by kernel_rfl) ?_ | refine CT.seqD (id := 6) 8 (by kernel_rfl) (by kernel_rfl) ?_ | refine CT.draw (id := 5) 15 (by kernel_rfl) (by kernel_rfl) ?_ | refine CT.draw (id := 6) 8 (by kernel_rfl) (by kernel_rfl) ?_ | refine CT.region ?_ | refine CT.seq1 ?_ | refine CT.block ?_ | refine CT.condT rfl ?_ | refine CT.condF rfl ?_ | refine CT.condD rfl (fun _ => ?_) (fun _ => ?_) | refine CT.condN rfl (fun _ => ?_) (fun _ => ?_) | refine CT.cond rfl (fun _ => ?_) (fun _ => ?_) | refine CT.skip ?_ | refine CT.exit ?_ | refine CT.ret ?_ | refine LT.nil ?_ | refine HT.nil1 ?_ | (refine LT.consT ?_; (first | refine T.box (e := 46) (cs := [.val _, .val _, .val _, .val _, .val _, .val _]) rfl rfl (by decide) rfl rfl ?_ | refine T.appNil (t := 37) (e := 50) (k := 8) (bytes := 64) rfl rfl srP (by kernel_rfl) szP (by decide) rfl ?_ | refine T.app (t := 37) (e := 50) (k := 8) (bytes := 64) rfl rfl srP (by kernel_rfl) szP (by decide) rfl rfl ?_)) | ((first | apply LT.cons1 | apply HT.cons1); (first | exact OpH.indexS (t := 168) (k := 1) (j := 0) rfl slP rfl rfl (by kernel_rfl) a0 rfl | exact arm114_1); (try decide)))
    refine ⟨by first | exact .inl rfl | exact .inr rfl, _, (.cons (.tmp 6 (A := .row _ _ _ _) rfl (fun _ h => by cases h)) .nil), ?_, rfl⟩
    rw [List.map_append]
    rfl
end Go.Proofs.YtjmnnkhdadoehaaGreat

/- cao.walk, Insert. -/
namespace Go.Proofs.YtjmnnkhdadoehaaGreat
set_option linter.unusedSimpArgs false
set_option linter.unusedVariables false
open Go Go.RowKit Go.Shelf
theorem ArgsP.cons {P : Program} {S : St} {x : Operand} {xs : List Operand} {A : AV} {As : List AV} (h : ArgP P S (S.opv x) A) (t : ArgsP P S xs As) : ArgsP P S (x :: xs) (A :: As) := ⟨h, t⟩
theorem ArgsP.nil {P : Program} {S : St} : ArgsP P S [] [] := trivial
def NextIs (nx : Int → Int × Int) (n : Nat) (As : List AV) (res : AV) : Prop := ∃ a : Int, As = [.val (.int .i64 a)] ∧ 0 ≤ a ∧ a < n ∧ res = .tup [.val (.int .i64 (nx a).1), .val (.int .i64 (nx a).2)]
theorem nextB_bound (l : List Slt) {a : Int} (h0 : 0 ≤ a) (h1 : a < l.length) : a < (nextB l a).1 ∧ (nextB l a).1 ≤ l.length ∧ -1 ≤ (nextB l a).2 ∧ (nextB l a).2 < l.length := by
  obtain ⟨q1, q2, _, _⟩ := loF_spec l (nth l a.toNat).e (show a.toNat + 1 ≤ l.length by omega)
  unfold nextB
  dsimp only
  rcases emFirst_spec l q1 with ⟨h, _⟩ | ⟨r, h, h2, h3, _⟩
  · rw [h]; omega
  · rw [h]; omega
theorem nextA_bound (l : List Slt) {a : Int} (h0 : 0 ≤ a) (h1 : a < l.length) : (nextA l a).1 < a ∧ -1 ≤ (nextA l a).1 ∧ -1 ≤ (nextA l a).2 ∧ (nextA l a).2 < l.length := by
  have qb := lastTo_bound (hiP l (nth l a.toNat).e) a.toNat
  have hq : hiF l (nth l a.toNat).e a.toNat = lastTo (hiP l (nth l a.toNat).e) a.toNat := rfl
  unfold nextA
  dsimp only
  rcases emLast_spec l (hiF l (nth l a.toNat).e a.toNat + 1).toNat a.toNat with ⟨h, _⟩ | ⟨r, h, h2, h3, _⟩
  · rw [h]; omega
  · rw [h]; omega
theorem wayG_in {nx : Int → Int × Int} {n : Nat} (hb : ∀ a : Int, 0 ≤ a → a < n → (nx a).2 < n) : ∀ (f : Nat) (a : Int), ∀ v ∈ wayG nx n f a, 0 ≤ v ∧ v < n
  | 0, a, v, h => by cases h
  | f + 1, a, v, h => by
    by_cases hin : 0 ≤ a ∧ a < n
    · by_cases h2 : 0 ≤ (nx a).2
      · rw [wayG_free hin h2] at h
        have := hb a hin.1 hin.2
        rcases List.mem_cons.1 h with rfl | h
        · exact hin
        · rw [List.mem_singleton.1 h]; exact ⟨h2, this⟩
      · rw [wayG_far hin h2] at h
        have ih := wayG_in hb f (nx a).1
        cases hw : wayG nx n f (nx a).1 with
        | nil => rw [hw] at h; cases h
        | cons b w =>
          rw [hw] at h ih
          rcases List.mem_cons.1 h with rfl | h
          · exact hin
          · exact ih v h
    · rw [wayG_out hin] at h; cases h
theorem wayG_length {nx : Int → Int × Int} {n : Nat} : ∀ (f : Nat) (a : Int), (wayG nx n f a).length ≤ f + 1
  | 0, a => by simp [wayG]
  | f + 1, a => by
    by_cases hin : 0 ≤ a ∧ a < n
    · by_cases h2 : 0 ≤ (nx a).2
      · rw [wayG_free hin h2]; simp
      · rw [wayG_far hin h2]
        have ih := wayG_length (nx := nx) (n := n) f (nx a).1
        cases hw : wayG nx n f (nx a).1 with
        | nil => simp [behind]
        | cons b w => rw [hw] at ih; simp only [behind, List.length_append, List.length_cons, List.length_nil] at *; omega
    · rw [wayG_out hin]; simp
attribute [local irreducible] OpH OpT LT CT HT Good
theorem arm115_1 {p : Prop} (h : p := by first | exact OpH.assign (v := .val _) rfl | exact OpH.assign (v := .sl _ _) rfl | exact OpH.assign (v := .row _ _ _ _) rfl | exact OpH.assign (v := .full _ _) rfl | exact OpH.assign (v := .ptr _ _) rfl | exact OpH.assign (v := .cptr _) rfl | exact OpH.assign (v := .cloB _ _) rfl | exact OpH.assign (v := .clo _ _) rfl | exact OpH.assign (v := .pr _) rfl | exact OpH.assign (v := .arow _) rfl | exact OpH.assign (v := .aptr _ _ _ _) rfl | exact OpH.assign (v := .asub _ _ _ _) rfl | exact OpH.assign (v := .tup _) rfl | exact OpH.move (v := .val _) rfl | exact OpH.move (v := .sl _ _) rfl | exact OpH.move (v := .row _ _ _ _) rfl | exact OpH.move (v := .full _ _) rfl | exact OpH.move (v := .ptr _ _) rfl | exact OpH.move (v := .cptr _) rfl | exact OpH.move (v := .cloB _ _) rfl | exact OpH.move (v := .clo _ _) rfl | exact OpH.move (v := .pr _) rfl | exact OpH.move (v := .arow _) rfl | exact OpH.move (v := .aptr _ _ _ _) rfl | exact OpH.move (v := .asub _ _ _ _) rfl | exact OpH.move (v := .tup _) rfl | exact OpH.bin rfl rfl (pb_geq_t (by omega)) | exact OpH.bin rfl rfl (pb_geq_f (by omega)) | exact OpH.bin rfl rfl (pb_geq) | exact OpH.lenM (t := 30) rfl (.sl _ _) (by kernel_rfl) | exact OpH.lenM (t := 30) rfl (.row _ _ _ _) (by kernel_rfl) | exact OpH.lenM (t := 30) rfl (.full _ _) (by kernel_rfl) | exact OpH.len (t := 30) rfl slP (by kernel_rfl) | exact OpH.lenNil (t := 30) rfl (by kernel_rfl) | exact OpH.bin rfl rfl (pb_lss_t (by omega)) | exact OpH.bin rfl rfl (pb_lss_f (by omega)) | exact OpH.bin rfl rfl (pb_lss) | exact OpH.pick (b := true) (v := .val _) rfl rfl | exact OpH.pick (b := false) (v := .val _) rfl rfl | exact OpH.pick (b := true) (v := .sl _ _) rfl rfl | exact OpH.pick (b := false) (v := .sl _ _) rfl rfl | exact OpH.pick (b := true) (v := .row _ _ _ _) rfl rfl | exact OpH.pick (b := false) (v := .row _ _ _ _) rfl rfl | exact OpH.pick (b := true) (v := .full _ _) rfl rfl | exact OpH.pick (b := false) (v := .full _ _) rfl rfl | exact OpH.pickV rfl rfl rfl | exact lit_168_1 rfl | exact OpH.extract (v := .val _) rfl rfl (fun _ h => by cases h) | exact OpH.extract (v := .sl _ _) rfl rfl (fun _ h => by cases h) | exact OpH.extract (v := .row _ _ _ _) rfl rfl (fun _ h => by cases h) | exact OpH.extract (v := .full _ _) rfl rfl (fun _ h => by cases h)) : p := h
set_option maxRecDepth 100000 in
set_option maxHeartbeats 2000000 in
theorem g_walk (l : List Slt) (nx : Int → Int × Int) (μ : Int → Nat) (F : Nat) (a0 : Int) (hF : F ≤ 70000) (h0 : 0 ≤ a0 → a0 < l.length → μ a0 < F) (hμ : ∀ a : Int, 0 ≤ a → a < l.length → ¬ 0 ≤ (nx a).2 → 0 ≤ (nx a).1 → (nx a).1 < l.length → μ (nx a).1 < μ a)
    (hl : l.length ≤ 65536) : Good Tryz.prog 115 [.sl 7 (l.map encS), .val (.int .i64 a0), .pr (FnIs Tryz.prog (NextIs nx l.length))] (.row 6 3 1 ((wayG nx l.length F a0).map encI)) := by
  refine Good.of_body (T := [(0, _), (1, _), (2, _)]) Tryz.func115 rfl rfl rfl ?_
  intro K0 w0 hno
  repeat' (first | refine CT.seqR ?_ | refine CT.region ?_ | refine CT.seq1 ?_ | refine CT.block ?_ | refine CT.condT rfl ?_ | refine CT.condF rfl ?_ | refine CT.condD rfl (fun _ => ?_) (fun _ => ?_) | refine CT.condN rfl (fun _ => ?_) (fun _ => ?_) | refine CT.cond rfl (fun _ => ?_) (fun _ => ?_) | refine CT.skip ?_ | refine CT.exit ?_ | refine CT.ret ?_ | refine LT.nil ?_ | refine HT.nil1 ?_ | (refine LT.consT ?_; (first | refine T.appNil (t := 168) (e := 3) (k := 1) (bytes := 8) rfl rfl srP (by kernel_rfl) szP (by decide) rfl ?_ | refine T.app (t := 168) (e := 3) (k := 1) (bytes := 8) rfl rfl srP (by kernel_rfl) szP (by decide) rfl rfl ?_)) | ((first | apply LT.cons1 | (apply LT.guard1; rfl; rfl; rfl; decide)); (first | exact arm115_1); decide) | refine LT.skip1 rfl rfl rfl (by decide) (by decide) ?_ | refine LT.skip2 rfl rfl (by decide) (by decide) ?_ | refine LT.partD rfl rfl (fun _ => ?_) (fun _ => ?_) | refine LT.partN rfl rfl (fun _ => ?_) (fun _ => ?_) | (refine LT.part1 rfl rfl (fun h => ?_) (fun h => ?_); (fail_if_success exact absurd h (by decide)); rotate_left; (fail_if_success exact absurd h (by decide)); rotate_left))
  refine CT.loopX (fun q : List Int × Int × Nat => (⟨[(0, .sl 7 (l.map encS)), (1, .val (.int .i64 q.2.1)), (2, .pr (FnIs Tryz.prog (NextIs nx l.length))), (7, .row 7 3 1 (q.1.map encI))], [], []⟩ : St))
    (fun q => wayG nx l.length F a0 = behind q.1 (wayG nx l.length q.2.2 q.2.1) ∧ (0 ≤ q.2.1 → q.2.1 < l.length → μ q.2.1 < q.2.2) ∧ q.1.length + q.2.2 ≤ 70000) (fun q => q.2.2) ([], a0, F) ?_ ⟨by cases wayG nx l.length F a0 <;> rfl, h0, by simp; omega⟩ ?_
  · (apply Sub.mk; (focus (repeat (first | exact .nil | refine .other (.keep rfl rfl) ?_ | refine .other (.aref rfl rfl rfl) ?_ | refine .other (.val rfl (by first | rfl | (congr 1; first | omega | assumption | (symm; assumption)) | (simp; omega))) ?_ | refine .other .dead ?_ | refine .other (.sl rfl (.row _ _ _ _) rfl) ?_ | refine .other (.sl rfl (.sl _ _) rfl) ?_ | refine .other (.sl rfl (.full _ _) rfl) ?_ | refine .other (.slNil rfl rfl) ?_ | refine .rowNil rfl rfl rfl ?_ | refine .row rfl (by first | rfl | assumption | (rw [← List.map_append]; first | done | rfl | congr 1)) rfl rfl ?_))); (focus (repeat (first | exact .nil | refine KeepB.same rfl rfl rfl ?_ | refine KeepB.sameA rfl rfl rfl ?_))); (focus (repeat (first | exact .nil | refine KeepA.cons rfl (by first | rfl | assumption | exact List.map_set | exact List.map_set.symm | (rw [← List.map_append]; first | done | rfl | congr 1) | (congr 1; first | omega | assumption)) ?_))))
  rintro ⟨pre, a, f⟩ ⟨hw, hf, hp⟩
  dsimp only at hw hf hp ⊢
  by_cases hin : 0 ≤ a ∧ a < l.length
  · obtain ⟨h1, h2⟩ := hin
    obtain ⟨f, rfl⟩ : ∃ f', f = f' + 1 := ⟨f - 1, by have := hf h1 h2; omega⟩
    by_cases hfree : 0 ≤ (nx a).2
    · rw [wayG_free ⟨h1, h2⟩ hfree] at hw
      have hw' : wayG nx l.length F a0 = pre ++ [a] ++ [(nx a).2] := by rw [hw]; simp [behind]
      rw [hw']
      generalize hn1 : (nx a).1 = n1
      generalize hn2 : (nx a).2 = n2 at hfree ⊢
      repeat' (first | (refine CT.sub (S' := ⟨[(6, .row 6 3 1 ((pre ++ [a] ++ [n2]).map encI))], [], []⟩) ?_ (CT.ret ?_)) | refine CT.seqR ?_ | refine CT.region ?_ | refine CT.seq1 ?_ | refine CT.block ?_ | refine CT.condT rfl ?_ | refine CT.condF rfl ?_ | refine CT.condD rfl (fun _ => ?_) (fun _ => ?_) | refine CT.condN rfl (fun _ => ?_) (fun _ => ?_) | refine CT.cond rfl (fun _ => ?_) (fun _ => ?_) | refine CT.skip ?_ | refine CT.exit ?_ | refine CT.ret ?_ | refine LT.nil ?_ | refine HT.nil1 ?_ | (refine LT.consT ?_; (first | refine T.appNil (t := 168) (e := 3) (k := 1) (bytes := 8) rfl rfl srP (by kernel_rfl) szP (by decide) rfl ?_ | refine T.app (t := 168) (e := 3) (k := 1) (bytes := 8) rfl rfl srP (by kernel_rfl) szP (by decide) rfl rfl ?_)) | ((first | apply LT.cons1 | (apply LT.guard1; rfl; rfl; rfl; decide)); (first | exact OpH.callP (res := .tup [.val (.int .i64 n1), .val (.int .i64 n2)]) rfl rfl ⟨a, rfl, h1, h2, by rw [hn1, hn2]⟩ rfl | exact arm115_1); decide) | refine LT.skip1 rfl rfl rfl (by decide) (by decide) ?_ | refine LT.skip2 rfl rfl (by decide) (by decide) ?_ | refine LT.partD rfl rfl (fun _ => ?_) (fun _ => ?_) | refine LT.partN rfl rfl (fun _ => ?_) (fun _ => ?_) | (refine LT.part1 rfl rfl (fun h => ?_) (fun h => ?_); (fail_if_success exact absurd h (by decide)); rotate_left; (fail_if_success exact absurd h (by decide)); rotate_left))
      · rw [show List.map encI (pre ++ [a] ++ [n2]) = List.map encI (pre ++ [a]) ++ List.map encI [n2] from List.map_append]
        (apply Sub.mk; (focus (repeat (first | exact .nil | refine .other (.keep rfl rfl) ?_ | refine .other (.aref rfl rfl rfl) ?_ | refine .other (.val rfl (by first | rfl | (congr 1; first | omega | assumption | (symm; assumption)) | (simp; omega))) ?_ | refine .other .dead ?_ | refine .other (.sl rfl (.row _ _ _ _) rfl) ?_ | refine .other (.sl rfl (.sl _ _) rfl) ?_ | refine .other (.sl rfl (.full _ _) rfl) ?_ | refine .other (.slNil rfl rfl) ?_ | refine .rowNil rfl rfl rfl ?_ | refine .row rfl (by first | rfl | assumption | (rw [← List.map_append]; first | done | rfl | congr 1)) rfl rfl ?_))); (focus (repeat (first | exact .nil | refine KeepB.same rfl rfl rfl ?_ | refine KeepB.sameA rfl rfl rfl ?_))); (focus (repeat (first | exact .nil | refine KeepA.cons rfl (by first | rfl | assumption | exact List.map_set | exact List.map_set.symm | (rw [← List.map_append]; first | done | rfl | congr 1) | (congr 1; first | omega | assumption)) ?_))))
      · refine ⟨by first | exact .inl rfl | exact .inr rfl, _, (.cons (.tmp 6 (A := .row _ _ _ _) rfl (fun _ h => by cases h)) .nil), ?_, rfl⟩
        rfl
    · rw [wayG_far ⟨h1, h2⟩ hfree] at hw
      have hw' : wayG nx l.length F a0 = behind (pre ++ [a]) (wayG nx l.length f (nx a).1) := by
        rw [hw]
        cases wayG nx l.length f (nx a).1 with
        | nil => rfl
        | cons b w => simp [behind]
      have hm := hμ a h1 h2 hfree
      have hfa := hf h1 h2
      generalize hn1 : (nx a).1 = n1 at hw' hm
      generalize hn2 : (nx a).2 = n2 at hfree
      repeat' (first | refine CT.seqR ?_ | refine CT.region ?_ | refine CT.seq1 ?_ | refine CT.block ?_ | refine CT.condT rfl ?_ | refine CT.condF rfl ?_ | refine CT.condD rfl (fun _ => ?_) (fun _ => ?_) | refine CT.condN rfl (fun _ => ?_) (fun _ => ?_) | refine CT.cond rfl (fun _ => ?_) (fun _ => ?_) | refine CT.skip ?_ | refine CT.exit ?_ | refine CT.ret ?_ | refine LT.nil ?_ | refine HT.nil1 ?_ | (refine LT.consT ?_; (first | refine T.appNil (t := 168) (e := 3) (k := 1) (bytes := 8) rfl rfl srP (by kernel_rfl) szP (by decide) rfl ?_ | refine T.app (t := 168) (e := 3) (k := 1) (bytes := 8) rfl rfl srP (by kernel_rfl) szP (by decide) rfl rfl ?_)) | ((first | apply LT.cons1 | (apply LT.guard1; rfl; rfl; rfl; decide)); (first | exact OpH.callP (res := .tup [.val (.int .i64 n1), .val (.int .i64 n2)]) rfl rfl ⟨a, rfl, h1, h2, by rw [hn1, hn2]⟩ rfl | exact arm115_1); decide) | refine LT.skip1 rfl rfl rfl (by decide) (by decide) ?_ | refine LT.skip2 rfl rfl (by decide) (by decide) ?_ | refine LT.partD rfl rfl (fun _ => ?_) (fun _ => ?_) | refine LT.partN rfl rfl (fun _ => ?_) (fun _ => ?_) | (refine LT.part1 rfl rfl (fun h => ?_) (fun h => ?_); (fail_if_success exact absurd h (by decide)); rotate_left; (fail_if_success exact absurd h (by decide)); rotate_left))
      refine ⟨(pre ++ [a], n1, f), ⟨hw', fun q1 q2 => ?_, ?_⟩, by dsimp only; omega, ?_⟩
      · have := hm q1 q2
        dsimp only at *
        omega
      · simp only [List.length_append, List.length_singleton]; omega
      · dsimp only
        (apply Sub.mk; (focus (repeat (first | exact .nil | refine .other (.keep rfl rfl) ?_ | refine .other (.aref rfl rfl rfl) ?_ | refine .other (.val rfl (by first | rfl | (congr 1; first | omega | assumption | (symm; assumption)) | (simp; omega))) ?_ | refine .other .dead ?_ | refine .other (.sl rfl (.row _ _ _ _) rfl) ?_ | refine .other (.sl rfl (.sl _ _) rfl) ?_ | refine .other (.sl rfl (.full _ _) rfl) ?_ | refine .other (.slNil rfl rfl) ?_ | refine .rowNil rfl rfl rfl ?_ | refine .row rfl (by first | rfl | assumption | (rw [← List.map_append]; first | done | rfl | congr 1)) rfl rfl ?_))); (focus (repeat (first | exact .nil | refine KeepB.same rfl rfl rfl ?_ | refine KeepB.sameA rfl rfl rfl ?_))); (focus (repeat (first | exact .nil | refine KeepA.cons rfl (by first | rfl | assumption | exact List.map_set | exact List.map_set.symm | (rw [← List.map_append]; first | done | rfl | congr 1) | (congr 1; first | omega | assumption)) ?_))))
  · rw [wayG_out hin] at hw
    have hw' : wayG nx l.length F a0 = [] := hw
    rw [hw']
    have hcase : a < 0 ∨ (0 ≤ a ∧ (l.length : Int) ≤ a) := by omega
    rcases hcase with h | ⟨h, h'⟩
    all_goals
      repeat' (first | (refine CT.sub (S' := ⟨[(6, .row 6 3 1 (([] : List Int).map encI))], [], []⟩) ?_ (CT.ret ?_)) | refine CT.seqR ?_ | refine CT.region ?_ | refine CT.seq1 ?_ | refine CT.block ?_ | refine CT.condT rfl ?_ | refine CT.condF rfl ?_ | refine CT.condD rfl (fun _ => ?_) (fun _ => ?_) | refine CT.condN rfl (fun _ => ?_) (fun _ => ?_) | refine CT.cond rfl (fun _ => ?_) (fun _ => ?_) | refine CT.skip ?_ | refine CT.exit ?_ | refine CT.ret ?_ | refine LT.nil ?_ | refine HT.nil1 ?_ | (refine LT.consT ?_; (first | refine T.appNil (t := 168) (e := 3) (k := 1) (bytes := 8) rfl rfl srP (by kernel_rfl) szP (by decide) rfl ?_ | refine T.app (t := 168) (e := 3) (k := 1) (bytes := 8) rfl rfl srP (by kernel_rfl) szP (by decide) rfl rfl ?_)) | ((first | apply LT.cons1 | (apply LT.guard1; rfl; rfl; rfl; decide)); (first | exact arm115_1); decide) | refine LT.skip1 rfl rfl rfl (by decide) (by decide) ?_ | refine LT.skip2 rfl rfl (by decide) (by decide) ?_ | refine LT.partD rfl rfl (fun _ => ?_) (fun _ => ?_) | refine LT.partN rfl rfl (fun _ => ?_) (fun _ => ?_) | (refine LT.part1 rfl rfl (fun h => ?_) (fun h => ?_); (fail_if_success exact absurd h (by decide)); rotate_left; (fail_if_success exact absurd h (by decide)); rotate_left))
      · (apply Sub.mk; (focus (repeat (first | exact .nil | refine .other (.keep rfl rfl) ?_ | refine .other (.aref rfl rfl rfl) ?_ | refine .other (.val rfl (by first | rfl | (congr 1; first | omega | assumption | (symm; assumption)) | (simp; omega))) ?_ | refine .other .dead ?_ | refine .other (.sl rfl (.row _ _ _ _) rfl) ?_ | refine .other (.sl rfl (.sl _ _) rfl) ?_ | refine .other (.sl rfl (.full _ _) rfl) ?_ | refine .other (.slNil rfl rfl) ?_ | refine .rowNil rfl rfl rfl ?_ | refine .row rfl (by first | rfl | assumption | (rw [← List.map_append]; first | done | rfl | congr 1)) rfl rfl ?_))); (focus (repeat (first | exact .nil | refine KeepB.same rfl rfl rfl ?_ | refine KeepB.sameA rfl rfl rfl ?_))); (focus (repeat (first | exact .nil | refine KeepA.cons rfl (by first | rfl | assumption | exact List.map_set | exact List.map_set.symm | (rw [← List.map_append]; first | done | rfl | congr 1) | (congr 1; first | omega | assumption)) ?_))))
      · refine ⟨by first | exact .inl rfl | exact .inr rfl, _, (.cons (.tmp 6 (A := .row _ _ _ _) rfl (fun _ h => by cases h)) .nil), ?_, rfl⟩
        rfl
theorem arm116_1 {p : Prop} (h : p := by first | exact OpH.assign (v := .val _) rfl | exact OpH.assign (v := .sl _ _) rfl | exact OpH.assign (v := .row _ _ _ _) rfl | exact OpH.assign (v := .full _ _) rfl | exact OpH.assign (v := .ptr _ _) rfl | exact OpH.assign (v := .cptr _) rfl | exact OpH.assign (v := .cloB _ _) rfl | exact OpH.assign (v := .clo _ _) rfl | exact OpH.assign (v := .pr _) rfl | exact OpH.assign (v := .arow _) rfl | exact OpH.assign (v := .aptr _ _ _ _) rfl | exact OpH.assign (v := .asub _ _ _ _) rfl | exact OpH.assign (v := .tup _) rfl | exact OpH.loadC1 (t := 30) rfl (by kernel_rfl) rfl | exact OpH.loadB1 (t := 30) rfl rfl (by kernel_rfl) rfl | exact OpH.move (v := .val _) rfl | exact OpH.move (v := .sl _ _) rfl | exact OpH.move (v := .row _ _ _ _) rfl | exact OpH.move (v := .full _ _) rfl | exact OpH.move (v := .ptr _ _) rfl | exact OpH.move (v := .cptr _) rfl | exact OpH.move (v := .cloB _ _) rfl | exact OpH.move (v := .clo _ _) rfl | exact OpH.move (v := .pr _) rfl | exact OpH.move (v := .arow _) rfl | exact OpH.move (v := .aptr _ _ _ _) rfl | exact OpH.move (v := .asub _ _ _ _) rfl | exact OpH.move (v := .tup _) rfl | exact OpH.bin rfl rfl (pb_inc (by omega)) | exact OpH.bin rfl rfl (pb_addN rfl (by omega)) | exact OpH.bin rfl rfl (pb_add (by omega)) | exact OpH.bin rfl rfl (pb_addw) | exact OpH.indexS (t := 30) (k := 7) rfl slP rfl rfl (by kernel_rfl) (map_at bd) rfl | exact OpH.fieldC (s := 48) (f := 1) (off := 1) rfl (by kernel_rfl) rfl | exact OpH.fieldB (s := 48) (f := 1) (off := 1) rfl (by kernel_rfl) rfl | exact loadC6 (t := 46) rfl (by kernel_rfl) | exact loadB6 (t := 46) rfl rfl (by kernel_rfl) rfl) : p := h
set_option maxRecDepth 100000 in
set_option maxHeartbeats 2000000 in
theorem g_ins1 (l : List Slt) (hl : l.length ≤ 65536) (k : Nat) (hk : k < l.length) : Good Tryz.prog 116 [.val (.int .i64 k), .pr (PSl 7 (l.map encS))] (.tup [.val (.int .i64 (nextB l k).1), .val (.int .i64 (nextB l k).2)]) := by
  have e1 : (nextB l k).1 = (loF l (nth l k).e (k + 1) : Int) := by unfold nextB; simp only [Int.toNat_natCast]
  have e2 : (nextB l k).2 = emFirst l (k + 1) (loF l (nth l k).e (k + 1)) := by unfold nextB; simp only [Int.toNat_natCast]
  rw [e1, e2]
  obtain ⟨s, hs⟩ : ∃ s, l[k] = s := ⟨_, rfl⟩
  have hat := slot_at hk hs
  rw [nth_is hk hs]
  obtain ⟨q1, q2, _, _⟩ := loF_spec l s.e (show k + 1 ≤ l.length by omega)
  have gL := g_lowest l s.e (k + 1) (by omega) hl
  have gE := g_emptyF l (k + 1) (loF l s.e (k + 1)) q1 q2 hl
  generalize loF l s.e (k + 1) = far at q1 q2 gL gE ⊢
  refine Good.of_body (T := [(0, _), (1, _)]) Tryz.func116 rfl rfl rfl ?_
  intro K0 w0 hno
  repeat' (first | refine CT.seqR ?_ | refine CT.seqD (id := 1) 9 (by kernel_rfl) (by kernel_rfl) ?_ | refine CT.draw (id := 1) 9 (by kernel_rfl) (by kernel_rfl) ?_ | refine CT.region ?_ | refine CT.seq1 ?_ | refine CT.block ?_ | refine CT.condT rfl ?_ | refine CT.condF rfl ?_ | refine CT.condD rfl (fun _ => ?_) (fun _ => ?_) | refine CT.condN rfl (fun _ => ?_) (fun _ => ?_) | refine CT.cond rfl (fun _ => ?_) (fun _ => ?_) | refine CT.skip ?_ | refine CT.exit ?_ | refine CT.ret ?_ | refine LT.nil ?_ | refine HT.nil1 ?_ | ((first | apply LT.cons1 | apply HT.cons1); (first | exact OpH.loadP rfl (by kernel_rfl) | exact OpH.indexS (t := 30) (k := 7) (j := k) rfl slP rfl rfl (by kernel_rfl) hat rfl | exact OpH.callF Tryz.func117 rfl rfl rfl gL rfl | exact OpH.callF Tryz.func113 rfl rfl rfl gE rfl | exact arm116_1); (try decide)))
  refine ⟨by first | exact .inl rfl | exact .inr rfl, _, (.cons (.tmp 3 (A := .val _) rfl (fun _ h => by cases h)) (.cons (.tmp 4 (A := .val _) rfl (fun _ h => by cases h)) .nil)), ?_, rfl⟩
  rfl
theorem arm118_1 {p : Prop} (h : p := by first | exact OpH.assign (v := .val _) rfl | exact OpH.assign (v := .sl _ _) rfl | exact OpH.assign (v := .row _ _ _ _) rfl | exact OpH.assign (v := .full _ _) rfl | exact OpH.assign (v := .ptr _ _) rfl | exact OpH.assign (v := .cptr _) rfl | exact OpH.assign (v := .cloB _ _) rfl | exact OpH.assign (v := .clo _ _) rfl | exact OpH.assign (v := .pr _) rfl | exact OpH.assign (v := .arow _) rfl | exact OpH.assign (v := .aptr _ _ _ _) rfl | exact OpH.assign (v := .asub _ _ _ _) rfl | exact OpH.assign (v := .tup _) rfl | exact OpH.loadC1 (t := 30) rfl (by kernel_rfl) rfl | exact OpH.loadB1 (t := 30) rfl rfl (by kernel_rfl) rfl | exact OpH.move (v := .val _) rfl | exact OpH.move (v := .sl _ _) rfl | exact OpH.move (v := .row _ _ _ _) rfl | exact OpH.move (v := .full _ _) rfl | exact OpH.move (v := .ptr _ _) rfl | exact OpH.move (v := .cptr _) rfl | exact OpH.move (v := .cloB _ _) rfl | exact OpH.move (v := .clo _ _) rfl | exact OpH.move (v := .pr _) rfl | exact OpH.move (v := .arow _) rfl | exact OpH.move (v := .aptr _ _ _ _) rfl | exact OpH.move (v := .asub _ _ _ _) rfl | exact OpH.move (v := .tup _) rfl | exact OpH.indexS (t := 30) (k := 7) rfl slP rfl rfl (by kernel_rfl) (map_at bd) rfl | exact OpH.fieldC (s := 48) (f := 1) (off := 1) rfl (by kernel_rfl) rfl | exact OpH.fieldB (s := 48) (f := 1) (off := 1) rfl (by kernel_rfl) rfl | exact loadC6 (t := 46) rfl (by kernel_rfl) | exact loadB6 (t := 46) rfl rfl (by kernel_rfl) rfl | exact OpH.bin rfl rfl (pb_inc (by omega)) | exact OpH.bin rfl rfl (pb_addN rfl (by omega)) | exact OpH.bin rfl rfl (pb_add (by omega)) | exact OpH.bin rfl rfl (pb_addw)) : p := h
set_option maxRecDepth 100000 in
set_option maxHeartbeats 2000000 in
theorem g_ins2 (l : List Slt) (hl : l.length ≤ 65536) (k : Nat) (hk : k < l.length) : Good Tryz.prog 118 [.val (.int .i64 k), .pr (PSl 7 (l.map encS))] (.tup [.val (.int .i64 (nextA l k).1), .val (.int .i64 (nextA l k).2)]) := by
  have e1 : (nextA l k).1 = hiF l (nth l k).e k := by unfold nextA; simp only [Int.toNat_natCast]
  have e2 : (nextA l k).2 = emLast l (hiF l (nth l k).e k + 1).toNat k := by unfold nextA; simp only [Int.toNat_natCast]
  rw [e1, e2]
  obtain ⟨s, hs⟩ : ∃ s, l[k] = s := ⟨_, rfl⟩
  have hat := slot_at hk hs
  rw [nth_is hk hs]
  have qb := lastTo_bound (hiP l s.e) k
  have hq : hiF l s.e k = lastTo (hiP l s.e) k := rfl
  have gL := g_highest l s.e k (by omega) hl
  have gE := g_emptyL l (hiF l s.e k + 1).toNat k (by omega) (by omega) hl
  rw [Int.toNat_of_nonneg (show 0 ≤ hiF l s.e k + 1 by omega)] at gE
  have hb : -1 ≤ hiF l s.e k ∧ hiF l s.e k < k := by omega
  generalize emLast l (hiF l s.e k + 1).toNat k = fr at gE ⊢
  generalize hiF l s.e k = far at gL gE hb ⊢
  refine Good.of_body (T := [(0, _), (1, _)]) Tryz.func118 rfl rfl rfl ?_
  intro K0 w0 hno
  repeat' (first | refine CT.seqR ?_ | refine CT.seqD (id := 1) 8 (by kernel_rfl) (by kernel_rfl) ?_ | refine CT.draw (id := 1) 8 (by kernel_rfl) (by kernel_rfl) ?_ | refine CT.region ?_ | refine CT.seq1 ?_ | refine CT.block ?_ | refine CT.condT rfl ?_ | refine CT.condF rfl ?_ | refine CT.condD rfl (fun _ => ?_) (fun _ => ?_) | refine CT.condN rfl (fun _ => ?_) (fun _ => ?_) | refine CT.cond rfl (fun _ => ?_) (fun _ => ?_) | refine CT.skip ?_ | refine CT.exit ?_ | refine CT.ret ?_ | refine LT.nil ?_ | refine HT.nil1 ?_ | ((first | apply LT.cons1 | apply HT.cons1); (first | exact OpH.loadP rfl (by kernel_rfl) | exact OpH.indexS (t := 30) (k := 7) (j := k) rfl slP rfl rfl (by kernel_rfl) hat rfl | exact OpH.callF Tryz.func119 rfl rfl rfl gL rfl | exact OpH.callF Tryz.func113 rfl rfl rfl gE rfl | exact arm118_1); (try decide)))
  refine ⟨by first | exact .inl rfl | exact .inr rfl, _, (.cons (.tmp 3 (A := .val _) rfl (fun _ h => by cases h)) (.cons (.tmp 4 (A := .val _) rfl (fun _ h => by cases h)) .nil)), ?_, rfl⟩
  rfl
theorem spec1 (l : List Slt) (hl : l.length ≤ 65536) : ∀ As res, NextIs (nextB l) l.length As res → Good Tryz.prog 116 (As ++ [.pr (PSl 7 (l.map encS))]) res := by
  rintro As res ⟨a, rfl, h0, h1, rfl⟩
  obtain ⟨k, rfl⟩ : ∃ k : Nat, a = k := ⟨a.toNat, by omega⟩
  exact g_ins1 l hl k (by omega)
theorem spec2 (l : List Slt) (hl : l.length ≤ 65536) : ∀ As res, NextIs (nextA l) l.length As res → Good Tryz.prog 118 (As ++ [.pr (PSl 7 (l.map encS))]) res := by
  rintro As res ⟨a, rfl, h0, h1, rfl⟩
  obtain ⟨k, rfl⟩ : ∃ k : Nat, a = k := ⟨a.toNat, by omega⟩
  exact g_ins2 l hl k (by omega)
theorem g_walkB (l : List Slt) (a0 : Int) (h0 : 0 ≤ a0) (hl : l.length ≤ 65536) : Good Tryz.prog 115 [.sl 7 (l.map encS), .val (.int .i64 a0), .pr (FnIs Tryz.prog (NextIs (nextB l) l.length))] (.row 6 3 1 ((wayB l a0).map encI)) :=
  g_walk l (nextB l) (fun a => l.length - a.toNat) (l.length + 1) a0 (by omega) (fun _ _ => by omega) (fun a h1 h2 _ h3 h4 => by
    have := nextB_bound l h1 h2
    omega) hl
theorem g_walkA (l : List Slt) (a0 : Int) (hl : l.length ≤ 65536) : Good Tryz.prog 115 [.sl 7 (l.map encS), .val (.int .i64 a0), .pr (FnIs Tryz.prog (NextIs (nextA l) l.length))] (.row 6 3 1 ((wayA l a0).map encI)) :=
  g_walk l (nextA l) (fun a => a.toNat) (l.length + 1) a0 (by omega) (fun _ _ => by omega) (fun a h1 h2 _ h3 h4 => by
    have := nextA_bound l h1 h2
    omega) hl
end Go.Proofs.YtjmnnkhdadoehaaGreat

/- cao.Chain; law13.slot, law13.awake. -/
namespace Go.Proofs.YtjmnnkhdadoehaaGreat
set_option linter.unusedSimpArgs false
set_option linter.unusedVariables false
open Go Go.RowKit Go.Shelf
attribute [local irreducible] OpH OpT LT CT HT Good
end Go.Proofs.YtjmnnkhdadoehaaGreat

/- law08 and law12: slots and writes as the document has them; ref08, ref13: what the document's answer does, first part. -/
namespace Go.Proofs.YtjmnnkhdadoehaaGreat
set_option linter.unusedSimpArgs false
set_option linter.unusedVariables false
open Go Go.RowKit Go.Shelf
attribute [local irreducible] OpH OpT LT CT HT Good
end Go.Proofs.YtjmnnkhdadoehaaGreat

/- ref13.Gap, Below, Above. -/
namespace Go.Proofs.YtjmnnkhdadoehaaGreat
set_option linter.unusedSimpArgs false
set_option linter.unusedVariables false
open Go Go.RowKit Go.Shelf
attribute [local irreducible] OpH OpT LT CT HT Good
end Go.Proofs.YtjmnnkhdadoehaaGreat

/- ref13.Below, Above. -/
namespace Go.Proofs.YtjmnnkhdadoehaaGreat
set_option linter.unusedSimpArgs false
set_option linter.unusedVariables false
open Go Go.RowKit Go.Shelf
section
variable {P : Program} {N : Nat} {K0 : Know} {w0 : Bas} {Q : St → Prop} {ty : TypeId} {pos : String} {aft : Array Edge} {g : Option (Nat × Bool)} {tm : List (Nat × AV)} {bs : List (Nat × List AV)} {ar : List (Nat × Arr)} {dn : Nat}
end
theorem behind_behind (p w : List Int) (a : Int) : behind p (behind [a] w) = behind (p ++ [a]) w := by cases w <;> simp [behind]
theorem emFirst_down (l : List Slt) {i m : Nat} (h : i < m) (hm : m ≤ l.length) : emFirst l i m = if (nth l i).valid = true then emFirst l (i + 1) m else (i : Int) := by
  rcases emFirst_spec l (show i ≤ m by omega) with ⟨h1, h2⟩ | ⟨r, h1, h2, h3, h4, h5⟩
  · rw [h1, if_pos (h2 i (Nat.le_refl _) h)]
    rcases emFirst_spec l (show i + 1 ≤ m by omega) with ⟨g1, _⟩ | ⟨r, _, g2, g3, g4, _⟩
    · exact g1.symm
    · rw [h2 r (by omega) g3] at g4; cases g4
  · by_cases e : r = i
    · subst e; rw [h1, if_neg (by rw [h4]; simp)]
    · rw [h1, if_pos (h5 i (Nat.le_refl _) (by omega))]
      rcases emFirst_spec l (show i + 1 ≤ m by omega) with ⟨_, g2⟩ | ⟨r', g1, g2, g3, g4, g5⟩
      · rw [g2 r (by omega) h3] at h4; cases h4
      · rw [g1]
        congr 1
        rcases Nat.lt_trichotomy r r' with q | q | q
        · rw [g5 r (by omega) q] at h4; cases h4
        · exact q
        · rw [h5 r' (by omega) q] at g4; cases g4
structure InvB (l : List Slt) (W : List Int) (i m f : Nat) (way : List Int) : Prop where
  le : i ≤ m
  lm : m ≤ l.length
  val : m < l.length → (nth l m).valid = true
  fuel : m < l.length → l.length - m < f
  bnd : ∀ v ∈ way, 0 ≤ v ∧ v < l.length
  len : way.length ≤ i
  is : W = if 0 ≤ emFirst l i m then way ++ [emFirst l i m] else behind way (wayG (nextB l) l.length f m)
theorem InvB.hit {l : List Slt} {W : List Int} {i m f : Nat} {way : List Int} (h : InvB l W i m f way) (hi : i < l.length) (hv : (nth l i).valid = false) : W = way ++ [(i : Int)] := by
  have him : i < m := by
    have := h.le
    rcases Nat.lt_or_ge i m with c | c
    · exact c
    · have e : i = m := by omega
      subst e
      rw [h.val hi] at hv; cases hv
  have e := emFirst_down l him h.lm
  rw [if_neg (by rw [hv]; simp)] at e
  rw [h.is, e, if_pos (by omega)]
theorem InvB.push {l : List Slt} {W : List Int} {i f : Nat} {way : List Int} (h : InvB l W i i f way) (hi : i < l.length) : (nth l i).valid = true ∧ InvB l W (i + 1) (loF l (nth l i).e (i + 1)) (f - 1) (way ++ [(i : Int)]) := by
  refine ⟨h.val hi, ?_⟩
  obtain ⟨q1, q2, q3, q4⟩ := loF_spec l (nth l i).e (show i + 1 ≤ l.length by omega)
  obtain ⟨f, rfl⟩ : ∃ f', f = f' + 1 := ⟨f - 1, by have := h.fuel hi; omega⟩
  have hf := h.fuel hi
  have his := h.is
  rw [emFirst_start, if_neg (by omega)] at his
  have e1 : (nextB l i).1 = (loF l (nth l i).e (i + 1) : Int) := by unfold nextB; simp only [Int.toNat_natCast]
  have e2 : (nextB l i).2 = emFirst l (i + 1) (loF l (nth l i).e (i + 1)) := by unfold nextB; simp only [Int.toNat_natCast]
  refine ⟨q1, q2, fun hl => ?_, fun hl => by omega, fun v hv => ?_, by have := h.len; simp; omega, ?_⟩
  · have := q4 hl
    unfold loP at this
    rw [Bool.and_eq_true] at this
    exact this.1
  · rcases List.mem_append.1 hv with hv | hv
    · exact h.bnd v hv
    · rw [List.mem_singleton.1 hv]; omega
  · rw [his]
    by_cases c : 0 ≤ emFirst l (i + 1) (loF l (nth l i).e (i + 1))
    · rw [if_pos c, wayG_free ⟨by omega, by omega⟩ (by rw [e2]; exact c), e2]
      simp [behind]
    · rw [if_neg c, wayG_far ⟨by omega, by omega⟩ (by rw [e2]; exact c), e1, behind_behind]
      simp only [Nat.add_sub_cancel]
theorem InvB.done {l : List Slt} {W : List Int} {m f : Nat} {way : List Int} (h : InvB l W l.length m f way) : W = [] := by
  have e : m = l.length := by have := h.le; have := h.lm; omega
  subst e
  rw [h.is, emFirst_start, if_neg (by omega), wayG_out (by omega)]; rfl
attribute [local irreducible] OpH OpT LT CT HT Good
end Go.Proofs.YtjmnnkhdadoehaaGreat

/- ref13.Above. -/
namespace Go.Proofs.YtjmnnkhdadoehaaGreat
set_option linter.unusedSimpArgs false
set_option linter.unusedVariables false
open Go Go.RowKit Go.Shelf
structure InvA (l : List Slt) (W : List Int) (p : Nat) (m : Int) (f : Nat) (way : List Int) : Prop where
  lo : -1 ≤ m
  le : m < p
  lp : p ≤ l.length
  val : 0 ≤ m → (nth l m.toNat).valid = true
  fuel : 0 ≤ m → m.toNat < f
  bnd : ∀ v ∈ way, 0 ≤ v ∧ v < l.length
  len : way.length + p ≤ l.length
  is : W = if 0 ≤ emLast l (m + 1).toNat p then way ++ [emLast l (m + 1).toNat p] else behind way (wayG (nextA l) l.length f m)
theorem InvA.hit {l : List Slt} {W : List Int} {i f : Nat} {m : Int} {way : List Int} (h : InvA l W (i + 1) m f way) (hv : (nth l i).valid = false) : W = way ++ [(i : Int)] := by
  have h1 := h.lo
  have h2 := h.le
  have him : m ≠ i := fun e => by
    have := h.val (by omega)
    rw [e, Int.toNat_natCast, hv] at this; cases this
  have e := emLast_step l (show (m + 1).toNat ≤ i by omega)
  rw [if_neg (by rw [hv]; simp)] at e
  rw [h.is, e, if_pos (by omega)]
theorem InvA.push {l : List Slt} {W : List Int} {i f : Nat} {way : List Int} (h : InvA l W (i + 1) i f way) : (nth l i).valid = true ∧ InvA l W i (hiF l (nth l i).e i) (f - 1) (way ++ [(i : Int)]) := by
  have hv := h.val (by omega)
  rw [Int.toNat_natCast] at hv
  refine ⟨hv, ?_⟩
  have qb := lastTo_bound (hiP l (nth l i).e) i
  obtain ⟨_, q3⟩ := lastTo_spec (hiP l (nth l i).e) i
  have hq : hiF l (nth l i).e i = lastTo (hiP l (nth l i).e) i := rfl
  have hf := h.fuel (by omega)
  rw [Int.toNat_natCast] at hf
  obtain ⟨f, rfl⟩ : ∃ f', f = f' + 1 := ⟨f - 1, by omega⟩
  have his := h.is
  rw [show ((i : Int) + 1).toNat = i + 1 by omega, emLast_start, if_neg (by omega)] at his
  have e1 : (nextA l i).1 = hiF l (nth l i).e i := by unfold nextA; simp only [Int.toNat_natCast]
  have e2 : (nextA l i).2 = emLast l (hiF l (nth l i).e i + 1).toNat i := by unfold nextA; simp only [Int.toNat_natCast]
  have hlp := h.lp
  refine ⟨by omega, by omega, by omega, fun hl => ?_, fun hl => by omega, fun v hv' => ?_, by have := h.len; simp; omega, ?_⟩
  · have := q3 (by omega)
    rw [hq]
    unfold hiP at this
    rw [Bool.and_eq_true] at this
    exact this.1
  · rcases List.mem_append.1 hv' with hv' | hv'
    · exact h.bnd v hv'
    · rw [List.mem_singleton.1 hv']; omega
  · rw [his]
    by_cases c : 0 ≤ emLast l (hiF l (nth l i).e i + 1).toNat i
    · rw [if_pos c, wayG_free ⟨by omega, by omega⟩ (by rw [e2]; exact c), e2]
      simp [behind]
    · rw [if_neg c, wayG_far ⟨by omega, by omega⟩ (by rw [e2]; exact c), e1, behind_behind]
      simp only [Nat.add_sub_cancel]
theorem InvA.done {l : List Slt} {W : List Int} {m : Int} {f : Nat} {way : List Int} (h : InvA l W 0 m f way) : W = [] := by
  have h1 := h.lo
  have h2 := h.le
  have e : m = -1 := by omega
  subst e
  rw [h.is, show ((-1 : Int) + 1).toNat = 0 from rfl, emLast_start, if_neg (by omega), wayG_out (by omega)]; rfl
attribute [local irreducible] OpH OpT LT CT HT Good
end Go.Proofs.YtjmnnkhdadoehaaGreat

/- ref13.Insert. -/
namespace Go.Proofs.YtjmnnkhdadoehaaGreat
set_option linter.unusedSimpArgs false
set_option linter.unusedVariables false
open Go Go.RowKit Go.Shelf
attribute [local irreducible] OpH OpT LT CT HT Good
end Go.Proofs.YtjmnnkhdadoehaaGreat
