/- law13.awake. -/
import Derived.Test.YtjmnnkhdadoehaaWCaoZ
import Derived.Test.YtjmnnkhdadoehaaWCaoU
import Derived.Test.YtjmnnkhdadoehaaWWalkT
import Derived.Test.YtjmnnkhdadoehaaWOpen
namespace Go.Proofs.Ytjmnnkhdadoehaa
set_option linter.unusedSimpArgs false
set_option linter.unusedVariables false
open Go Go.RowKit Go.Shelf
theorem field_61_1 {x0 x1 x2 x3 x4 x5 x6 : Value} (w : World) : (Instr.field 61 (.agg #[x0, x1, x2, x3, x4, x5, x6]) 1).run Try.prog w = .ok (.agg #[x1, x2, x3, x4, x5, x6]) w := by kernel_rfl
def awS : List Slt := [slotS 8, slotS 0, ⟨false, ⟨⟨⟨0, 0⟩, ⟨0, 0⟩⟩, 0, 0⟩⟩]
theorem aw_ins : insC awS (slotS 16).e = ([⟨2, slotS 0⟩, ⟨1, slotS 8⟩, ⟨0, slotS 16⟩], 0) := by decide +kernel
theorem aw_kept : ordered (entsS awS) = true := by decide +kernel
theorem aw_ents : entsS awS = [(slotS 8).e, (slotS 0).e] := rfl
theorem aw_chain : chainE [(slotS 8).e, (slotS 0).e] = 2 := by
  have e2 : sortE [(slotS 8).e, (slotS 0).e] = [(slotS 8).e, (slotS 0).e] := (sortE_unique (List.Perm.refl _) (List.pairwise_cons.2 ⟨fun y hy => by rw [List.mem_singleton.1 hy]; decide +kernel, List.pairwise_singleton _ _⟩)).symm
  unfold chainE
  rw [e2]
  decide +kernel
attribute [local irreducible] OpH OpT LT CT HT Good
theorem arm12_1 {p : Prop} (h : p := by first | exact OpH.assign (v := .val _) rfl | exact OpH.assign (v := .sl _ _) rfl | exact OpH.assign (v := .row _ _ _ _) rfl | exact OpH.assign (v := .full _ _) rfl | exact OpH.assign (v := .ptr _ _) rfl | exact OpH.assign (v := .cptr _) rfl | exact OpH.assign (v := .cloB _ _) rfl | exact OpH.assign (v := .clo _ _) rfl | exact OpH.assign (v := .pr _) rfl | exact OpH.assign (v := .arow _) rfl | exact OpH.assign (v := .aptr _ _ _ _) rfl | exact OpH.assign (v := .asub _ _ _ _) rfl | exact OpH.assign (v := .tup _) rfl | exact build_61_  | exact OpH.build (t := 61) (cells := #[_, _, _, _, _, _, _]) (by kernel_rfl) rfl | exact lit_22_3 rfl rfl rfl | exact OpH.move (v := .val _) rfl | exact OpH.move (v := .sl _ _) rfl | exact OpH.move (v := .row _ _ _ _) rfl | exact OpH.move (v := .full _ _) rfl | exact OpH.move (v := .ptr _ _) rfl | exact OpH.move (v := .cptr _) rfl | exact OpH.move (v := .cloB _ _) rfl | exact OpH.move (v := .clo _ _) rfl | exact OpH.move (v := .pr _) rfl | exact OpH.move (v := .arow _) rfl | exact OpH.move (v := .aptr _ _ _ _) rfl | exact OpH.move (v := .asub _ _ _ _) rfl | exact OpH.move (v := .tup _) rfl | exact OpH.field (xt := 61) (f := 1) rfl field_61_1 | exact OpH.extract (v := .val _) rfl rfl (fun _ h => by cases h) | exact OpH.extract (v := .sl _ _) rfl rfl (fun _ h => by cases h) | exact OpH.extract (v := .row _ _ _ _) rfl rfl (fun _ h => by cases h) | exact OpH.extract (v := .full _ _) rfl rfl (fun _ h => by cases h) | exact OpH.bin rfl rfl (pb_eql_t (by first | omega | assumption)) | exact OpH.bin rfl rfl (pb_eql_f (by first | omega | assumption)) | exact OpH.bin rfl rfl (pb_eql) | exact OpH.lenM (t := 33) rfl (.sl _ _) (by kernel_rfl) | exact OpH.lenM (t := 33) rfl (.row _ _ _ _) (by kernel_rfl) | exact OpH.lenM (t := 33) rfl (.full _ _) (by kernel_rfl) | exact OpH.len (t := 33) rfl slP (by kernel_rfl) | exact OpH.lenNil (t := 33) rfl (by kernel_rfl) | exact OpH.pick (b := true) (v := .val _) rfl rfl | exact OpH.pick (b := false) (v := .val _) rfl rfl | exact OpH.pick (b := true) (v := .sl _ _) rfl rfl | exact OpH.pick (b := false) (v := .sl _ _) rfl rfl | exact OpH.pick (b := true) (v := .row _ _ _ _) rfl rfl | exact OpH.pick (b := false) (v := .row _ _ _ _) rfl rfl | exact OpH.pick (b := true) (v := .full _ _) rfl rfl | exact OpH.pick (b := false) (v := .full _ _) rfl rfl | exact OpH.pickV rfl rfl rfl | exact OpH.indexS (t := 33) (k := 8) (j := 0) rfl slP rfl rfl (by kernel_rfl) (map_at bd) rfl | exact loadC8 (t := 64) rfl (by kernel_rfl) | exact loadB8 (t := 64) rfl rfl (by kernel_rfl) rfl | exact build_64_0_1 rfl rfl | exact OpH.build (t := 64) (cells := #[_, _, _, _, _, _, _, _]) (by kernel_rfl) rfl | exact OpH.bin rfl rfl (pb_of (pb_agg eqg_64 (eql_64 _ _ _ _ _ _ _ _ _ _ _ _ _ _ _ _)) (same_t (by first | rfl | assumption))) | exact OpH.bin rfl rfl (pb_of (pb_agg eqg_64 (eql_64 _ _ _ _ _ _ _ _ _ _ _ _ _ _ _ _)) (same_f (by assumption))) | exact OpH.bin rfl rfl (pb_agg eqg_64 (eql_64 _ _ _ _ _ _ _ _ _ _ _ _ _ _ _ _)) | exact OpH.indexS (t := 33) (k := 8) (j := 1) rfl slP rfl rfl (by kernel_rfl) (map_at bd) rfl | exact OpH.indexS (t := 33) (k := 8) (j := 2) rfl slP rfl rfl (by kernel_rfl) (map_at bd) rfl) : p := h
set_option maxRecDepth 100000 in
set_option maxHeartbeats 4000000 in
theorem g_awake13 : Good Try.prog 12 [] (.val (.bool true)) := by
  have g8 := g_slot 8
  have g0 := g_slot 0
  have g16 := g_slot 16
  have gI := g_cInsert awS (slotS 16).e (by decide)
  rw [aw_ins] at gI
  have gK := g_cKept awS (by decide)
  rw [aw_kept] at gK
  have gE := g_Entries awS (by decide)
  rw [aw_ents] at gE
  have gC := g_Chain [(slotS 8).e, (slotS 0).e] (by simp)
  rw [aw_chain] at gC
  unfold awS at gI gK gE
  generalize slotS 8 = s8 at *
  generalize slotS 0 = s0 at *
  generalize slotS 16 = s16 at *
  refine Good.of_body (T := []) Try.func12 rfl rfl rfl ?_
  intro K0 w0 hno
  repeat' (first | refine CT.seqR ?_ | refine CT.seqD (id := 3) 41 (by kernel_rfl) (by kernel_rfl) ?_ | refine CT.draw (id := 3) 41 (by kernel_rfl) (by kernel_rfl) ?_ | refine CT.region ?_ | refine CT.seq1 ?_ | refine CT.block ?_ | refine CT.condT rfl ?_ | refine CT.condF rfl ?_ | refine CT.condD rfl (fun _ => ?_) (fun _ => ?_) | refine CT.condN rfl (fun _ => ?_) (fun _ => ?_) | refine CT.cond rfl (fun _ => ?_) (fun _ => ?_) | refine CT.skip ?_ | refine CT.exit ?_ | refine CT.ret ?_ | refine CT.goto ?_ | refine CT.label ?_ | refine LT.nil ?_ | refine HT.nil1 ?_ | ((first | apply LT.cons1 | (apply LT.guard1; rfl; rfl; rfl; decide)); (first | exact OpH.callF Try.func45 rfl rfl rfl g8 rfl | exact OpH.callF Try.func45 rfl rfl rfl g0 rfl | exact OpH.callF Try.func45 rfl rfl rfl g16 rfl | exact OpH.callF Try.func14 rfl rfl rfl gI rfl | exact OpH.callF Try.func23 rfl rfl rfl gK rfl | exact OpH.callFW Try.func25 rfl rfl rfl gE | exact OpH.callF Try.func46 rfl rfl rfl gC rfl | exact arm12_1); decide) | refine LT.skip1 rfl rfl rfl (by decide) (by decide) ?_ | refine LT.skip2 rfl rfl (by decide) (by decide) ?_ | refine LT.partD rfl rfl (fun _ => ?_) (fun _ => ?_) | refine LT.partN rfl rfl (fun _ => ?_) (fun _ => ?_) | (refine LT.part1 rfl rfl (fun h => ?_) (fun h => ?_); (fail_if_success exact absurd h (by decide)); rotate_left; (fail_if_success exact absurd h (by decide)); rotate_left) | ((first | apply HT.cons1 | (apply HT.guard1; rfl; rfl; rfl)); (first | exact OpH.callF Try.func45 rfl rfl rfl g8 rfl | exact OpH.callF Try.func45 rfl rfl rfl g0 rfl | exact OpH.callF Try.func45 rfl rfl rfl g16 rfl | exact OpH.callF Try.func14 rfl rfl rfl gI rfl | exact OpH.callF Try.func23 rfl rfl rfl gK rfl | exact OpH.callFW Try.func25 rfl rfl rfl gE | exact OpH.callF Try.func46 rfl rfl rfl gC rfl | exact arm12_1)) | refine HT.skip1 rfl rfl rfl ?_ | refine HT.skip2 rfl rfl ?_ | refine HT.partD rfl rfl (fun _ => ?_) (fun _ => ?_) | refine HT.partN rfl rfl (fun _ => ?_) (fun _ => ?_) | (refine HT.part1 rfl rfl (fun h => ?_) (fun h => ?_); (fail_if_success exact absurd h (by decide)); rotate_left; (fail_if_success exact absurd h (by decide)); rotate_left))
  refine ⟨by first | exact .inl rfl | exact .inr rfl, _, (.cons (.tmp 0 (A := .val _) rfl (fun _ h => by cases h)) .nil), ?_, rfl⟩
  rfl
end Go.Proofs.Ytjmnnkhdadoehaa

/- slices.Clone at slots; bank.May, bank.Apply of one write. -/
namespace Go.Proofs.Ytjmnnkhdadoehaa
set_option linter.unusedSimpArgs false
set_option linter.unusedVariables false
open Go Go.RowKit Go.Shelf
theorem lenS (x : Slt) : (encS x).length = 7 := rfl
theorem oneS (x : Slt) : ∀ u ∈ encS x, u.oneCell' = true := by
  intro u hu
  simp only [encS, List.mem_cons, List.not_mem_nil, or_false] at hu
  rcases hu with rfl | rfl | rfl | rfl | rfl | rfl | rfl <;> rfl
end Go.Proofs.Ytjmnnkhdadoehaa
namespace Go.Proofs.Ytjmnnkhdadoehaa
set_option linter.unusedSimpArgs false
set_option linter.unusedVariables false
open Go.RowKit
attribute [local go_sem high] eql_25 neq_25 eql_24 neq_24 eql_27 neq_27 eql_41 neq_41 eql_29 neq_29 eql_43 neq_43 eql_108 neq_108 eql_61 neq_61 eql_90 neq_90 eql_64 neq_64 eql_104 neq_104 eql_67 neq_67 eql_71 neq_71
attribute [local go_sem ↓ high] yielded_undef
attribute [local go_sem] eqg_25 eqg_24 eqg_27 eqg_41 eqg_29 eqg_43 eqg_108 eqg_61 eqg_90 eqg_64 eqg_104 eqg_67 eqg_71 cell_grew frozen_grew size_grew grew_grew drewN_grew lt_addk size_setW Instr.field asAgg lt_gi_k lt_gi_kh lt_gi_k_k lt_gi_k_kh lt_gi_k_k_k lt_gi_k_k_kh lt_gi_i_k lt_gi_i_kh lt_gi_i_k_k lt_gi_i_k_kh lt_gi_i_k_k_k lt_gi_i_k_k_kh lt_gi_i_i_k lt_gi_i_i_kh lt_gi_i_i_k_k lt_gi_i_i_k_kh lt_gi_i_i_k_k_k lt_gi_i_i_k_k_kh lt_gi_i_i_i_k lt_gi_i_i_i_kh lt_gi_i_i_i_k_k lt_gi_i_i_i_k_kh lt_gi_i_i_i_k_k_k lt_gi_i_i_i_k_k_kh lt_gi_i_i_i_i_k lt_gi_i_i_i_i_kh lt_gi_i_i_i_i_k_k lt_gi_i_i_i_i_k_kh lt_gi_i_i_i_i_k_k_k lt_gi_i_i_i_i_k_k_kh lt_gi_i_i_i_i_i_k lt_gi_i_i_i_i_i_kh lt_gi_i_i_i_i_i_k_k lt_gi_i_i_i_i_i_k_kh lt_gi_i_i_i_i_i_k_k_k lt_gi_i_i_i_i_i_k_k_kh lt_gi_i_i_i_i_i_i_k lt_gi_i_i_i_i_i_i_kh lt_gi_i_i_i_i_i_i_k_k lt_gi_i_i_i_i_i_i_k_kh lt_gi_i_i_i_i_i_i_k_k_k lt_gi_i_i_i_i_i_i_k_k_kh lt_gi_i_i_i_i_i_i_i_k lt_gi_i_i_i_i_i_i_i_kh lt_gi_i_i_i_i_i_i_i_k_k lt_gi_i_i_i_i_i_i_i_k_kh lt_gi_i_i_i_i_i_i_i_k_k_k lt_gi_i_i_i_i_i_i_i_k_k_kh lt_gi_k_i lt_gi_k_ih lt_gi_k_i_k lt_gi_k_i_kh lt_gi_k_k_i lt_gi_k_k_ih lt_gi_k_k_i_k lt_gi_k_k_i_kh lt_gi_k_i_i lt_gi_k_i_ih lt_gi_k_i_i_k lt_gi_k_i_i_kh lt_gi_k_k_i_i lt_gi_k_k_i_ih lt_gi_k_k_i_i_k lt_gi_k_k_i_i_kh lt_gi_k_i_i_i lt_gi_k_i_i_ih lt_gi_k_i_i_i_k lt_gi_k_i_i_i_kh lt_gi_k_k_i_i_i lt_gi_k_k_i_i_ih lt_gi_k_k_i_i_i_k lt_gi_k_k_i_i_i_kh lt_gi_i_k_i lt_gi_i_k_ih lt_gi_i_k_i_k lt_gi_i_k_i_kh lt_gi_i_k_k_i lt_gi_i_k_k_ih lt_gi_i_k_k_i_k lt_gi_i_k_k_i_kh lt_gi_i_k_i_i lt_gi_i_k_i_ih lt_gi_i_k_i_i_k lt_gi_i_k_i_i_kh lt_gi_i_k_k_i_i lt_gi_i_k_k_i_ih lt_gi_i_k_k_i_i_k lt_gi_i_k_k_i_i_kh lt_gi_i_k_i_i_i lt_gi_i_k_i_i_ih lt_gi_i_k_i_i_i_k lt_gi_i_k_i_i_i_kh lt_gi_i_k_k_i_i_i lt_gi_i_k_k_i_i_ih lt_gi_i_k_k_i_i_i_k lt_gi_i_k_k_i_i_i_kh lt_gi_i_i_k_i lt_gi_i_i_k_ih lt_gi_i_i_k_i_k lt_gi_i_i_k_i_kh lt_gi_i_i_k_k_i lt_gi_i_i_k_k_ih lt_gi_i_i_k_k_i_k lt_gi_i_i_k_k_i_kh lt_gi_i_i_k_i_i lt_gi_i_i_k_i_ih lt_gi_i_i_k_i_i_k lt_gi_i_i_k_i_i_kh lt_gi_i_i_k_k_i_i lt_gi_i_i_k_k_i_ih lt_gi_i_i_k_k_i_i_k lt_gi_i_i_k_k_i_i_kh lt_gi_i_i_k_i_i_i lt_gi_i_i_k_i_i_ih lt_gi_i_i_k_i_i_i_k lt_gi_i_i_k_i_i_i_kh lt_gi_i_i_k_k_i_i_i lt_gi_i_i_k_k_i_i_ih lt_gi_i_i_k_k_i_i_i_k lt_gi_i_i_k_k_i_i_i_kh lt_gi_i_i_i_k_i lt_gi_i_i_i_k_ih lt_gi_i_i_i_k_i_k lt_gi_i_i_i_k_i_kh lt_gi_i_i_i_k_k_i lt_gi_i_i_i_k_k_ih lt_gi_i_i_i_k_k_i_k lt_gi_i_i_i_k_k_i_kh lt_gi_i_i_i_k_i_i lt_gi_i_i_i_k_i_ih lt_gi_i_i_i_k_i_i_k lt_gi_i_i_i_k_i_i_kh lt_gi_i_i_i_k_k_i_i lt_gi_i_i_i_k_k_i_ih lt_gi_i_i_i_k_k_i_i_k lt_gi_i_i_i_k_k_i_i_kh lt_gi_i_i_i_k_i_i_i lt_gi_i_i_i_k_i_i_ih lt_gi_i_i_i_k_i_i_i_k lt_gi_i_i_i_k_i_i_i_kh lt_gi_i_i_i_k_k_i_i_i lt_gi_i_i_i_k_k_i_i_ih lt_gi_i_i_i_k_k_i_i_i_k lt_gi_i_i_i_k_k_i_i_i_kh lt_gi_i_i_i_i_k_i lt_gi_i_i_i_i_k_ih lt_gi_i_i_i_i_k_i_k lt_gi_i_i_i_i_k_i_kh lt_gi_i_i_i_i_k_k_i lt_gi_i_i_i_i_k_k_ih lt_gi_i_i_i_i_k_k_i_k lt_gi_i_i_i_i_k_k_i_kh lt_gi_i_i_i_i_k_i_i lt_gi_i_i_i_i_k_i_ih lt_gi_i_i_i_i_k_i_i_k lt_gi_i_i_i_i_k_i_i_kh lt_gi_i_i_i_i_k_k_i_i lt_gi_i_i_i_i_k_k_i_ih lt_gi_i_i_i_i_k_k_i_i_k lt_gi_i_i_i_i_k_k_i_i_kh lt_gi_i_i_i_i_k_i_i_i lt_gi_i_i_i_i_k_i_i_ih lt_gi_i_i_i_i_k_i_i_i_k lt_gi_i_i_i_i_k_i_i_i_kh lt_gi_i_i_i_i_k_k_i_i_i lt_gi_i_i_i_i_k_k_i_i_ih lt_gi_i_i_i_i_k_k_i_i_i_k lt_gi_i_i_i_i_k_k_i_i_i_kh
end Go.Proofs.Ytjmnnkhdadoehaa
namespace Go.Proofs.Ytjmnnkhdadoehaa
set_option linter.unusedSimpArgs false
set_option linter.unusedVariables false
open Go Go.RowKit Go.Shelf
attribute [local irreducible] OpH OpT LT CT HT Good
end Go.Proofs.Ytjmnnkhdadoehaa

/- CaoOne: the walk. -/
namespace Go.Proofs.Ytjmnnkhdadoehaa
set_option linter.unusedSimpArgs false
set_option linter.unusedVariables false
open Go Go.RowKit Go.Shelf
theorem ents_all {l : List Slt} (h : ∀ k, k < l.length → (nth l k).valid = true) : (entsS l).length = l.length := by
  unfold entsS
  rw [List.length_map, List.filter_eq_self.2 fun s hs => ?_]
  obtain ⟨k, hk, rfl⟩ := List.mem_iff_getElem.1 hs
  have := h k hk
  rwa [nth_at _ hk] at this
attribute [local irreducible] OpH OpT LT CT HT Good
theorem arm27_1 {p : Prop} (h : p := by first | exact OpH.assign (v := .val _) rfl | exact OpH.assign (v := .sl _ _) rfl | exact OpH.assign (v := .row _ _ _ _) rfl | exact OpH.assign (v := .full _ _) rfl | exact OpH.assign (v := .ptr _ _) rfl | exact OpH.assign (v := .cptr _) rfl | exact OpH.assign (v := .cloB _ _) rfl | exact OpH.assign (v := .clo _ _) rfl | exact OpH.assign (v := .pr _) rfl | exact OpH.assign (v := .arow _) rfl | exact OpH.assign (v := .aptr _ _ _ _) rfl | exact OpH.assign (v := .asub _ _ _ _) rfl | exact OpH.assign (v := .tup _) rfl | exact OpH.move (v := .val _) rfl | exact OpH.move (v := .sl _ _) rfl | exact OpH.move (v := .row _ _ _ _) rfl | exact OpH.move (v := .full _ _) rfl | exact OpH.move (v := .ptr _ _) rfl | exact OpH.move (v := .cptr _) rfl | exact OpH.move (v := .cloB _ _) rfl | exact OpH.move (v := .clo _ _) rfl | exact OpH.move (v := .pr _) rfl | exact OpH.move (v := .arow _) rfl | exact OpH.move (v := .aptr _ _ _ _) rfl | exact OpH.move (v := .asub _ _ _ _) rfl | exact OpH.move (v := .tup _) rfl | exact OpH.lenM (t := 22) rfl (.sl _ _) (by kernel_rfl) | exact OpH.lenM (t := 22) rfl (.row _ _ _ _) (by kernel_rfl) | exact OpH.lenM (t := 22) rfl (.full _ _) (by kernel_rfl) | exact OpH.len (t := 22) rfl slP (by kernel_rfl) | exact OpH.lenNil (t := 22) rfl (by kernel_rfl) | exact OpH.lenM (t := 56) rfl (.sl _ _) (by kernel_rfl) | exact OpH.lenM (t := 56) rfl (.row _ _ _ _) (by kernel_rfl) | exact OpH.lenM (t := 56) rfl (.full _ _) (by kernel_rfl) | exact OpH.len (t := 56) rfl slP (by kernel_rfl) | exact OpH.lenNil (t := 56) rfl (by kernel_rfl) | exact OpH.bin rfl rfl (pb_sub (by omega)) | exact OpH.bin rfl rfl (pb_subw)) : p := h
set_option maxRecDepth 100000 in
set_option maxHeartbeats 2000000 in
theorem g_Free (l : List Slt) (hl : l.length ≤ 60000) : Good Try.prog 27 [.sl 7 (l.map encS)] (.val (.int .i64 ((l.length : Int) - (entsS l).length))) := by
  have gE := g_Entries l (by omega)
  have hel := entsS_length l
  refine Good.of_body (T := [(0, _)]) Try.func27 rfl rfl rfl ?_
  intro K0 w0 hno
  repeat' (first | (refine LT.consT ?_; refine T.callRow Try.func25 rfl rfl rfl gE (by decide) rfl ?_) | refine CT.seqR ?_ | refine CT.region ?_ | refine CT.seq1 ?_ | refine CT.block ?_ | refine CT.condT rfl ?_ | refine CT.condF rfl ?_ | refine CT.condD rfl (fun _ => ?_) (fun _ => ?_) | refine CT.condN rfl (fun _ => ?_) (fun _ => ?_) | refine CT.cond rfl (fun _ => ?_) (fun _ => ?_) | refine CT.skip ?_ | refine CT.exit ?_ | refine CT.ret ?_ | refine CT.goto ?_ | refine CT.label ?_ | refine LT.nil ?_ | refine HT.nil1 ?_ | (apply LT.cons1; (first | exact arm27_1); decide))
  refine ⟨by first | exact .inl rfl | exact .inr rfl, _, (.cons (.tmp 2 (A := .val _) rfl (fun _ h => by cases h)) .nil), ?_, rfl⟩
  rfl
end Go.Proofs.Ytjmnnkhdadoehaa
