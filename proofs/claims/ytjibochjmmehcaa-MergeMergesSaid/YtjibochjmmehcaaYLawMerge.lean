/- MergeMerges: the walk. -/
import Derived.Test.YtjibochjmmehcaaYBuild
import Derived.Test.YtjibochjmmehcaaYMergeE
import Derived.Test.YtjibochjmmehcaaYOpen
namespace Go.Proofs.Ytjibochjmmehcaa
set_option linter.unusedSimpArgs false
set_option linter.unusedVariables false
open Go Go.RowKit Go.Shelf
attribute [local irreducible] OpH OpT LT CT HT Good
theorem arm3_1 {p : Prop} (h : p := by first | exact OpH.assign (v := .val _) rfl | exact OpH.assign (v := .sl _ _) rfl | exact OpH.assign (v := .row _ _ _ _) rfl | exact OpH.assign (v := .full _ _) rfl | exact OpH.assign (v := .ptr _ _) rfl | exact OpH.assign (v := .cptr _) rfl | exact OpH.assign (v := .cloB _ _) rfl | exact OpH.assign (v := .clo _ _) rfl | exact OpH.assign (v := .pr _) rfl | exact OpH.assign (v := .arow _) rfl | exact OpH.assign (v := .aptr _ _ _ _) rfl | exact OpH.assign (v := .asub _ _ _ _) rfl | exact OpH.assign (v := .tup _) rfl | exact OpH.move (v := .val _) rfl | exact OpH.move (v := .sl _ _) rfl | exact OpH.move (v := .row _ _ _ _) rfl | exact OpH.move (v := .full _ _) rfl | exact OpH.move (v := .ptr _ _) rfl | exact OpH.move (v := .cptr _) rfl | exact OpH.move (v := .cloB _ _) rfl | exact OpH.move (v := .clo _ _) rfl | exact OpH.move (v := .pr _) rfl | exact OpH.move (v := .arow _) rfl | exact OpH.move (v := .aptr _ _ _ _) rfl | exact OpH.move (v := .asub _ _ _ _) rfl | exact OpH.move (v := .tup _) rfl | exact OpH.lenM (t := 22) rfl (.sl _ _) (by kernel_rfl) | exact OpH.lenM (t := 22) rfl (.row _ _ _ _) (by kernel_rfl) | exact OpH.lenM (t := 22) rfl (.full _ _) (by kernel_rfl) | exact OpH.len (t := 22) rfl slP (by kernel_rfl) | exact OpH.lenNil (t := 22) rfl (by kernel_rfl) | exact OpH.bin rfl rfl (pb_gtr_t (by omega)) | exact OpH.bin rfl rfl (pb_gtr_f (by omega)) | exact OpH.bin rfl rfl (pb_gtr) | exact OpH.callF Try.func10 rfl rfl rfl (g_awake10) rfl | exact OpH.callFW Try.func11 rfl rfl rfl ((g_law5Of _ (by first | omega | (simp; omega) | simp))) | exact OpH.callFW Try.func13 rfl rfl rfl ((g_Merge _ (by assumption) (by first | omega | (simp; omega) | simp))) | exact OpH.bin (xt := 4) rfl rfl (pb_of (pb_eqlB (by kernel_rfl)) (beqB_t (by first | rfl | assumption))) | exact OpH.bin (xt := 4) rfl rfl (pb_eqlB (by kernel_rfl)) | exact OpH.pick (b := true) (v := .val _) rfl rfl | exact OpH.pick (b := false) (v := .val _) rfl rfl | exact OpH.pick (b := true) (v := .sl _ _) rfl rfl | exact OpH.pick (b := false) (v := .sl _ _) rfl rfl | exact OpH.pick (b := true) (v := .row _ _ _ _) rfl rfl | exact OpH.pick (b := false) (v := .row _ _ _ _) rfl rfl | exact OpH.pick (b := true) (v := .full _ _) rfl rfl | exact OpH.pick (b := false) (v := .full _ _) rfl rfl | exact OpH.pickV rfl rfl rfl) : p := h
set_option maxRecDepth 100000 in
set_option maxHeartbeats 2000000 in
theorem g_MergeMerges (xs : List Ent) (hok : ∀ x ∈ xs, x.w.ok) (hl : xs.length ≤ 9223372036854775807) : Good Try.prog 3 [.sl 6 (xs.map encE)] (.val (.bool true)) := by
  have gA := g_awake10
  refine Good.of_body (T := [(0, _)]) Try.func3 rfl rfl rfl ?_
  intro K0 w0 hno
  by_cases hm : xs.length ≤ 12
  · have hml := mergeE_length xs
    have gM := g_Merge xs hok (by omega)
    have gR := g_rMergeAll xs hok (by omega)
    have gS1 := same_true (g_same10 (mergeE xs) (mergeE xs) (by omega) (by omega))
    have gS2 := same_true (g_same10 xs xs (by omega) (by omega))
    obtain ⟨b, hb⟩ := bool_iff (SimpleR xs)
    have gB1 := g_mSimple xs b hb hok (by omega)
    have gB2 := g_Simple xs b hb hok (by omega)
    obtain ⟨ms, hms⟩ : ∃ ms, mergeE xs = ms := ⟨_, rfl⟩
    rw [hms] at gM gR gS1 hml
    cases b
    all_goals
      repeat' (first | (refine LT.consT ?_; refine T.callRow Try.func13 rfl rfl rfl gM (by decide) rfl ?_) | refine CT.seqR ?_ | refine CT.region ?_ | refine CT.seq1 ?_ | refine CT.block ?_ | refine CT.condT rfl ?_ | refine CT.condF rfl ?_ | refine CT.condD rfl (fun _ => ?_) (fun _ => ?_) | refine CT.condN rfl (fun _ => ?_) (fun _ => ?_) | refine CT.cond rfl (fun _ => ?_) (fun _ => ?_) | refine CT.skip ?_ | refine CT.exit ?_ | refine CT.ret ?_ | refine CT.goto ?_ | refine CT.label ?_ | refine LT.nil ?_ | refine HT.nil1 ?_ | (refine LT.consT ?_; (first | refine T.callRow Try.func11 rfl rfl rfl ((g_law5Of _ (by first | omega | (simp; omega) | simp))) (by decide) rfl ?_ | refine T.callRow Try.func13 rfl rfl rfl ((g_Merge _ (by assumption) (by first | omega | (simp; omega) | simp))) (by decide) rfl ?_)) | (apply LT.cons1; (first | exact OpH.callF Try.func14 rfl rfl rfl gR rfl | exact OpH.callF Try.func12 rfl rfl rfl gS1 rfl | exact OpH.callF Try.func12 rfl rfl rfl gS2 rfl | exact OpH.callF Try.func15 rfl rfl rfl gB1 rfl | exact OpH.callF Try.func16 rfl rfl rfl gB2 rfl | exact OpH.callF Try.func10 rfl rfl rfl gA rfl | exact arm3_1); decide) | (apply LT.guard1; rfl; rfl; rfl; decide; (first | exact OpH.callF Try.func14 rfl rfl rfl gR rfl | exact OpH.callF Try.func12 rfl rfl rfl gS1 rfl | exact OpH.callF Try.func12 rfl rfl rfl gS2 rfl | exact OpH.callF Try.func15 rfl rfl rfl gB1 rfl | exact OpH.callF Try.func16 rfl rfl rfl gB2 rfl | exact OpH.callF Try.func10 rfl rfl rfl gA rfl | exact arm3_1); decide) | refine LT.skip1 rfl rfl rfl (by decide) (by decide) ?_ | refine LT.skip2 rfl rfl (by decide) (by decide) ?_ | refine LT.partD rfl rfl (fun _ => ?_) (fun _ => ?_) | refine LT.partN rfl rfl (fun _ => ?_) (fun _ => ?_) | (refine LT.part1 rfl rfl (fun h => ?_) (fun h => ?_); (fail_if_success exact absurd h (by decide)); rotate_left; (fail_if_success exact absurd h (by decide)); rotate_left))
      refine ⟨by first | exact .inl rfl | exact .inr rfl, _, (.cons (.tmp 2 (A := .val _) rfl (fun _ h => by cases h)) .nil), ?_, rfl⟩
      rfl
  · repeat' (first | refine CT.seqR ?_ | refine CT.region ?_ | refine CT.seq1 ?_ | refine CT.block ?_ | refine CT.condT rfl ?_ | refine CT.condF rfl ?_ | refine CT.condD rfl (fun _ => ?_) (fun _ => ?_) | refine CT.condN rfl (fun _ => ?_) (fun _ => ?_) | refine CT.cond rfl (fun _ => ?_) (fun _ => ?_) | refine CT.skip ?_ | refine CT.exit ?_ | refine CT.ret ?_ | refine CT.goto ?_ | refine CT.label ?_ | refine LT.nil ?_ | refine HT.nil1 ?_ | (refine LT.consT ?_; (first | refine T.callRow Try.func11 rfl rfl rfl ((g_law5Of _ (by first | omega | (simp; omega) | simp))) (by decide) rfl ?_ | refine T.callRow Try.func13 rfl rfl rfl ((g_Merge _ (by assumption) (by first | omega | (simp; omega) | simp))) (by decide) rfl ?_)) | (apply LT.cons1; (first | exact OpH.callF Try.func10 rfl rfl rfl gA rfl | exact arm3_1); decide) | (apply LT.guard1; rfl; rfl; rfl; decide; (first | exact OpH.callF Try.func10 rfl rfl rfl gA rfl | exact arm3_1); decide) | refine LT.skip1 rfl rfl rfl (by decide) (by decide) ?_ | refine LT.skip2 rfl rfl (by decide) (by decide) ?_ | refine LT.partD rfl rfl (fun _ => ?_) (fun _ => ?_) | refine LT.partN rfl rfl (fun _ => ?_) (fun _ => ?_) | (refine LT.part1 rfl rfl (fun h => ?_) (fun h => ?_); (fail_if_success exact absurd h (by decide)); rotate_left; (fail_if_success exact absurd h (by decide)); rotate_left))
    refine ⟨by first | exact .inl rfl | exact .inr rfl, _, (.cons (.tmp 2 (A := .val _) rfl (fun _ h => by cases h)) .nil), ?_, rfl⟩
    rfl
theorem w_MergeMerges (A : Option Addr) (c : Nat) (xs : List Ent) (w : World) (hcap : xs.length ≤ c) (hnil : A = none → c = 0) (hr : Reads encE 6 w A xs) (hoks : ∀ x ∈ xs, OkE x) :
    Calls Try.prog 3 #[.slice A xs.length c] w fun e w' => e = .returned (.bool true) ∧ Below w.heap.size w w' :=
  (g_MergeMerges xs (fun x hx => (hoks x hx).1) hr.1).run (.sl hcap hnil hr lenE oneE .nil)
end Go.Proofs.Ytjibochjmmehcaa
