/- CaoInserts: the walk. -/
import Derived.Test.YtnklfbeiagkhiaaVCaoVI
import Derived.Test.YtnklfbeiagkhiaaVCaoP
import Derived.Test.YtnklfbeiagkhiaaVOpen
namespace Go.Proofs.Ytnklfbeiagkhiaa
set_option linter.unusedSimpArgs false
set_option linter.unusedVariables false
open Go Go.RowKit Go.Shelf
theorem insC_length (l : List Slt) (x : Ent) : (insC l x).1.length ≤ l.length + 3 := by
  have h1 : (wayB l (gapTo l x)).length ≤ l.length + 1 + 1 := wayG_length _ _
  have h2 : (wayA l (gapFrom l x - 1)).length ≤ l.length + 1 + 1 := wayG_length _ _
  have key : ∀ w : List Int, w.length ≤ l.length + 1 + 1 → (writesOf l x w).length ≤ l.length + 3 := fun w hw => by
    unfold writesOf
    rw [List.length_append, writesTo_length, List.length_singleton]; omega
  unfold insC
  split
  · simp
  split
  · simp
  split
  · exact key _ (by simp)
  split
  · simp
  split
  · exact key _ h2
  · exact key _ h1
attribute [local irreducible] OpH OpT LT CT HT Good
theorem arm4_1 {p : Prop} (h : p := by first | exact OpH.assign (v := .val _) rfl | exact OpH.assign (v := .sl _ _) rfl | exact OpH.assign (v := .row _ _ _ _) rfl | exact OpH.assign (v := .full _ _) rfl | exact OpH.assign (v := .ptr _ _) rfl | exact OpH.assign (v := .cptr _) rfl | exact OpH.assign (v := .cloB _ _) rfl | exact OpH.assign (v := .clo _ _) rfl | exact OpH.assign (v := .pr _) rfl | exact OpH.assign (v := .arow _) rfl | exact OpH.assign (v := .aptr _ _ _ _) rfl | exact OpH.assign (v := .asub _ _ _ _) rfl | exact OpH.assign (v := .tup _) rfl | exact OpH.move (v := .val _) rfl | exact OpH.move (v := .sl _ _) rfl | exact OpH.move (v := .row _ _ _ _) rfl | exact OpH.move (v := .full _ _) rfl | exact OpH.move (v := .ptr _ _) rfl | exact OpH.move (v := .cptr _) rfl | exact OpH.move (v := .cloB _ _) rfl | exact OpH.move (v := .clo _ _) rfl | exact OpH.move (v := .pr _) rfl | exact OpH.move (v := .arow _) rfl | exact OpH.move (v := .aptr _ _ _ _) rfl | exact OpH.move (v := .asub _ _ _ _) rfl | exact OpH.move (v := .tup _) rfl | exact OpH.lenM (t := 32) rfl (.sl _ _) (by kernel_rfl) | exact OpH.lenM (t := 32) rfl (.row _ _ _ _) (by kernel_rfl) | exact OpH.lenM (t := 32) rfl (.full _ _) (by kernel_rfl) | exact OpH.len (t := 32) rfl slP (by kernel_rfl) | exact OpH.lenNil (t := 32) rfl (by kernel_rfl) | exact OpH.bin rfl rfl (pb_gtr_t (by omega)) | exact OpH.bin rfl rfl (pb_gtr_f (by omega)) | exact OpH.bin rfl rfl (pb_gtr) | exact OpH.callF Try.func18 rfl rfl rfl (g_awake13) rfl | exact loadC6 (t := 36) rfl (by kernel_rfl) | exact loadB6 (t := 36) rfl rfl (by kernel_rfl) rfl | exact OpH.extract (v := .val _) rfl rfl (fun _ h => by cases h) | exact OpH.extract (v := .sl _ _) rfl rfl (fun _ h => by cases h) | exact OpH.extract (v := .row _ _ _ _) rfl rfl (fun _ h => by cases h) | exact OpH.extract (v := .full _ _) rfl rfl (fun _ h => by cases h) | exact OpH.callF Try.func22 rfl rfl rfl (g_law5One _ _ _ _ _ _) rfl | exact OpH.bin rfl rfl (pb_eql_t (by first | omega | assumption)) | exact OpH.bin rfl rfl (pb_eql_f (by first | omega | assumption)) | exact OpH.bin rfl rfl (pb_eql) | exact OpH.pick (b := true) (v := .val _) rfl rfl | exact OpH.pick (b := false) (v := .val _) rfl rfl | exact OpH.pick (b := true) (v := .sl _ _) rfl rfl | exact OpH.pick (b := false) (v := .sl _ _) rfl rfl | exact OpH.pick (b := true) (v := .row _ _ _ _) rfl rfl | exact OpH.pick (b := false) (v := .row _ _ _ _) rfl rfl | exact OpH.pick (b := true) (v := .full _ _) rfl rfl | exact OpH.pick (b := false) (v := .full _ _) rfl rfl | exact OpH.pickV rfl rfl rfl) : p := h
set_option maxRecDepth 100000 in
set_option maxHeartbeats 4000000 in
theorem g_CaoInserts (l : List Slt) (x : Ent) (hx : x.w.ok) (hok : ∀ s ∈ l, s.e.w.ok) (hl : l.length ≤ 9223372036854775807) : Good Try.prog 4 [.sl 7 (l.map encS), .val (.agg #[.int .u64 x.w.v.x, .int .u64 x.w.v.y, .int .u64 x.w.m.x, .int .u64 x.w.m.y, .int .i64 x.len, .int .i64 x.act])] (.val (.bool true)) := by
  have gW := g_awake13
  refine Good.of_body (T := [(0, _), (1, _)]) Try.func4 rfl rfl rfl ?_
  intro K0 w0 hno
  by_cases hm : l.length ≤ 20
  · have gO := g_law8Of l (by omega)
    have gI := g_cInsert l x (by omega)
    have gR := g_r13Insert l x hok hx (by omega)
    have g5 := g_law5One x.w.v.x x.w.v.y x.w.m.x x.w.m.y x.len x.act
    have hil := insC_length l x
    have gX := g_law12Writes (insC l x).1 (by omega)
    have gS := g_law8Same l (by omega)
    generalize (insC l x).1 = ws at gI gR gX
    generalize (insC l x).2 = er at gI gR
    repeat' (first | (refine LT.consT ?_; refine T.callRow Try.func19 rfl rfl rfl gO (by decide) rfl ?_) | refine CT.seqR ?_ | refine CT.region ?_ | refine CT.seq1 ?_ | refine CT.block ?_ | refine CT.condT rfl ?_ | refine CT.condF rfl ?_ | refine CT.condD rfl (fun _ => ?_) (fun _ => ?_) | refine CT.condN rfl (fun _ => ?_) (fun _ => ?_) | refine CT.cond rfl (fun _ => ?_) (fun _ => ?_) | refine CT.skip ?_ | refine CT.exit ?_ | refine CT.ret ?_ | refine CT.goto ?_ | refine CT.label ?_ | refine LT.nil ?_ | refine HT.nil1 ?_ | (refine LT.consT ?_; (first | refine T.box (e := 36) (cs := [.val _, .val _, .val _, .val _, .val _, .val _]) rfl rfl (by decide) rfl rfl ?_)) | ((first | apply LT.cons1 | (apply LT.guard1; rfl; rfl; rfl; decide)); (first | exact OpH.callF Try.func20 rfl rfl rfl gI rfl | exact OpH.callF Try.func21 rfl rfl rfl gR rfl | exact OpH.callF Try.func22 rfl rfl rfl g5 rfl | exact OpH.callF Try.func23 rfl rfl rfl gX rfl | exact OpH.callF Try.func24 rfl rfl rfl gS rfl | exact OpH.callF Try.func18 rfl rfl rfl gW rfl | exact arm4_1); decide) | refine LT.skip1 rfl rfl rfl (by decide) (by decide) ?_ | refine LT.skip2 rfl rfl (by decide) (by decide) ?_ | refine LT.partD rfl rfl (fun _ => ?_) (fun _ => ?_) | refine LT.partN rfl rfl (fun _ => ?_) (fun _ => ?_) | (refine LT.part1 rfl rfl (fun h => ?_) (fun h => ?_); (fail_if_success exact absurd h (by decide)); rotate_left; (fail_if_success exact absurd h (by decide)); rotate_left))
    all_goals first
      | (rename_i h; exact absurd rfl h)
      | (refine ⟨by first | exact .inl rfl | exact .inr rfl, _, (.cons (.tmp 4 (A := .val _) rfl (fun _ h => by cases h)) .nil), ?_, rfl⟩; rfl)
  · repeat' (first | refine CT.seqR ?_ | refine CT.region ?_ | refine CT.seq1 ?_ | refine CT.block ?_ | refine CT.condT rfl ?_ | refine CT.condF rfl ?_ | refine CT.condD rfl (fun _ => ?_) (fun _ => ?_) | refine CT.condN rfl (fun _ => ?_) (fun _ => ?_) | refine CT.cond rfl (fun _ => ?_) (fun _ => ?_) | refine CT.skip ?_ | refine CT.exit ?_ | refine CT.ret ?_ | refine CT.goto ?_ | refine CT.label ?_ | refine LT.nil ?_ | refine HT.nil1 ?_ | (refine LT.consT ?_; (first | refine T.box (e := 36) (cs := [.val _, .val _, .val _, .val _, .val _, .val _]) rfl rfl (by decide) rfl rfl ?_)) | ((first | apply LT.cons1 | (apply LT.guard1; rfl; rfl; rfl; decide)); (first | exact OpH.callF Try.func18 rfl rfl rfl gW rfl | exact arm4_1); decide) | refine LT.skip1 rfl rfl rfl (by decide) (by decide) ?_ | refine LT.skip2 rfl rfl (by decide) (by decide) ?_ | refine LT.partD rfl rfl (fun _ => ?_) (fun _ => ?_) | refine LT.partN rfl rfl (fun _ => ?_) (fun _ => ?_) | (refine LT.part1 rfl rfl (fun h => ?_) (fun h => ?_); (fail_if_success exact absurd h (by decide)); rotate_left; (fail_if_success exact absurd h (by decide)); rotate_left))
    refine ⟨by first | exact .inl rfl | exact .inr rfl, _, (.cons (.tmp 4 (A := .val _) rfl (fun _ h => by cases h)) .nil), ?_, rfl⟩
    rfl
theorem w_CaoInserts (A : Option Addr) (c : Nat) (l : List Slt) (x : Ent) (w : World) (hcap : l.length ≤ c) (hnil : A = none → c = 0) (hr : Reads encS 7 w A l) (hoks : ∀ s ∈ l, OkS s) (hox : OkE x) :
    Calls Try.prog 4 #[.slice A l.length c, .agg #[.int .u64 x.w.v.x, .int .u64 x.w.v.y, .int .u64 x.w.m.x, .int .u64 x.w.m.y, .int .i64 x.len, .int .i64 x.act]] w fun e w' => e = .returned (.bool true) ∧ Below w.heap.size w w' :=
  (g_CaoInserts l x hox.1 (fun s hs => (hoks s hs).1) hr.1).run (.sl hcap hnil hr lenS oneS (.val .nil))
end Go.Proofs.Ytnklfbeiagkhiaa
