/- law14: awake; PlanOne, PlanInserts: the walks. -/
import Derived.Test.YtjmnnkhdadoehaaGreatZPlnR
import Derived.Test.YtjmnnkhdadoehaaGreatZCaoX
import Derived.Test.YtjmnnkhdadoehaaGreatZCaoQ
import Derived.Test.YtjmnnkhdadoehaaGreatZOpen
namespace Go.Proofs.YtjmnnkhdadoehaaGreat
set_option linter.unusedSimpArgs false
set_option linter.unusedVariables false
open Go Go.RowKit Go.Shelf
def aw14X : Ent := eOf ⟨⟨0, 0⟩, 0⟩ 1
def aw14L : List Slt := [zeroS, ⟨true, aw14X⟩, ⟨true, aw14X⟩]
theorem aw14_one : onePl 1 aw14L ⟨2, aw14X⟩ = ([⟨1, zeroS⟩, ⟨2, zeroS⟩], 0) := by decide +kernel
theorem aw14_twins : twinsL aw14L = [⟨2, zeroS⟩] := by decide +kernel
theorem aw14_kept : keptPl 0 aw14L = true := by decide +kernel
attribute [local irreducible] OpH OpT LT CT HT Good
theorem arm7_1 {p : Prop} (h : p := by first | exact OpH.assign (v := .val _) rfl | exact OpH.assign (v := .sl _ _) rfl | exact OpH.assign (v := .row _ _ _ _) rfl | exact OpH.assign (v := .full _ _) rfl | exact OpH.assign (v := .ptr _ _) rfl | exact OpH.assign (v := .cptr _) rfl | exact OpH.assign (v := .cloB _ _) rfl | exact OpH.assign (v := .clo _ _) rfl | exact OpH.assign (v := .pr _) rfl | exact OpH.assign (v := .arow _) rfl | exact OpH.assign (v := .aptr _ _ _ _) rfl | exact OpH.assign (v := .asub _ _ _ _) rfl | exact OpH.assign (v := .tup _) rfl | exact build_65_  | exact OpH.build (t := 65) (cells := #[_, _, _]) (by kernel_rfl) rfl | exact OpH.callF Tryz.func30 rfl rfl rfl (g_eOf _ _ _ _) rfl | exact build_48_  | exact OpH.build (t := 48) (cells := #[_, _, _, _, _, _, _]) (by kernel_rfl) rfl | exact loadC6 (t := 46) rfl (by kernel_rfl) | exact loadB6 (t := 46) rfl rfl (by kernel_rfl) rfl | exact build_48_0_1 rfl rfl | exact lit_30_3 rfl rfl rfl | exact OpH.move (v := .val _) rfl | exact OpH.move (v := .sl _ _) rfl | exact OpH.move (v := .row _ _ _ _) rfl | exact OpH.move (v := .full _ _) rfl | exact OpH.move (v := .ptr _ _) rfl | exact OpH.move (v := .cptr _) rfl | exact OpH.move (v := .cloB _ _) rfl | exact OpH.move (v := .clo _ _) rfl | exact OpH.move (v := .pr _) rfl | exact OpH.move (v := .arow _) rfl | exact OpH.move (v := .aptr _ _ _ _) rfl | exact OpH.move (v := .asub _ _ _ _) rfl | exact OpH.move (v := .tup _) rfl | exact build_82_0_1 rfl rfl | exact OpH.build (t := 82) (cells := #[_, _, _, _, _, _, _]) (by kernel_rfl) rfl | exact OpH.extract (v := .val _) rfl rfl (fun _ h => by cases h) | exact OpH.extract (v := .sl _ _) rfl rfl (fun _ h => by cases h) | exact OpH.extract (v := .row _ _ _ _) rfl rfl (fun _ h => by cases h) | exact OpH.extract (v := .full _ _) rfl rfl (fun _ h => by cases h) | exact OpH.bin rfl rfl (pb_eql_t (by first | omega | assumption)) | exact OpH.bin rfl rfl (pb_eql_f (by first | omega | assumption)) | exact OpH.bin rfl rfl (pb_eql) | exact OpH.lenM (t := 37) rfl (.sl _ _) (by kernel_rfl) | exact OpH.lenM (t := 37) rfl (.row _ _ _ _) (by kernel_rfl) | exact OpH.lenM (t := 37) rfl (.full _ _) (by kernel_rfl) | exact OpH.len (t := 37) rfl slP (by kernel_rfl) | exact OpH.lenNil (t := 37) rfl (by kernel_rfl) | exact OpH.pick (b := true) (v := .val _) rfl rfl | exact OpH.pick (b := false) (v := .val _) rfl rfl | exact OpH.pick (b := true) (v := .sl _ _) rfl rfl | exact OpH.pick (b := false) (v := .sl _ _) rfl rfl | exact OpH.pick (b := true) (v := .row _ _ _ _) rfl rfl | exact OpH.pick (b := false) (v := .row _ _ _ _) rfl rfl | exact OpH.pick (b := true) (v := .full _ _) rfl rfl | exact OpH.pick (b := false) (v := .full _ _) rfl rfl | exact OpH.pickV rfl rfl rfl | exact OpH.indexS (t := 37) (k := 8) (j := 0) rfl slP rfl rfl (by kernel_rfl) (map_at bd) rfl | exact loadC8 (t := 50) rfl (by kernel_rfl) | exact loadB8 (t := 50) rfl rfl (by kernel_rfl) rfl | exact build_50_0 rfl | exact OpH.build (t := 50) (cells := #[_, _, _, _, _, _, _, _]) (by kernel_rfl) rfl | exact OpH.bin rfl rfl (pb_of (pb_agg eqg_50 (eql_50 _ _ _ _ _ _ _ _ _ _ _ _ _ _ _ _)) (same_t (by first | rfl | assumption))) | exact OpH.bin rfl rfl (pb_of (pb_agg eqg_50 (eql_50 _ _ _ _ _ _ _ _ _ _ _ _ _ _ _ _)) (same_f (by assumption))) | exact OpH.bin rfl rfl (pb_agg eqg_50 (eql_50 _ _ _ _ _ _ _ _ _ _ _ _ _ _ _ _)) | exact OpH.indexS (t := 37) (k := 8) (j := 1) rfl slP rfl rfl (by kernel_rfl) (map_at bd) rfl | exact OpH.fieldC (s := 50) (f := 0) (off := 0) rfl (by kernel_rfl) rfl | exact OpH.fieldB (s := 50) (f := 0) (off := 0) rfl (by kernel_rfl) rfl | exact OpH.loadC1 (t := 3) rfl (by kernel_rfl) rfl | exact OpH.loadB1 (t := 3) rfl rfl (by kernel_rfl) rfl) : p := h
set_option maxRecDepth 100000 in
set_option maxHeartbeats 4000000 in
theorem g_awake14 : Good Tryz.prog 7 [] (.val (.bool true)) := by
  have gX : Good Tryz.prog 30 [.val (.agg #[.int .u64 0, .int .u64 0, .int .i64 0]), .val (.int .i64 1)] (.val (.agg #[.int .u64 aw14X.w.v.x, .int .u64 aw14X.w.v.y, .int .u64 aw14X.w.m.x, .int .u64 aw14X.w.m.y, .int .i64 aw14X.len, .int .i64 aw14X.act])) := g_eOf 0 0 0 1
  have gP := g_One 1 aw14L ⟨2, aw14X⟩ (by decide)
  rw [aw14_one] at gP
  have gT := g_Twins aw14L (by decide)
  rw [aw14_twins] at gT
  have gK := g_plnKept 0 aw14L (by decide)
  rw [aw14_kept] at gK
  have gO := g_Order 1
  rw [show ordPl 1 = true from rfl] at gO
  unfold aw14L at gP gT gK
  generalize aw14X = x at *
  refine Good.of_body (T := []) Tryz.func7 rfl rfl rfl ?_
  intro K0 w0 hno
  repeat' (first | (refine LT.consT ?_; refine T.callRow Tryz.func32 rfl rfl rfl gT (by decide) rfl ?_) | refine CT.seqR ?_ | refine CT.region ?_ | refine CT.seq1 ?_ | refine CT.block ?_ | refine CT.condT rfl ?_ | refine CT.condF rfl ?_ | refine CT.condD rfl (fun _ => ?_) (fun _ => ?_) | refine CT.condN rfl (fun _ => ?_) (fun _ => ?_) | refine CT.cond rfl (fun _ => ?_) (fun _ => ?_) | refine CT.skip ?_ | refine CT.exit ?_ | refine CT.ret ?_ | refine LT.nil ?_ | refine HT.nil1 ?_ | (refine LT.consT ?_; (first | refine T.alloc (e := 46) (z := .agg #[.int .u64 0, .int .u64 0, .int .u64 0, .int .u64 0, .int .i64 0, .int .i64 0]) (cs := [.val (.int .u64 0), .val (.int .u64 0), .val (.int .u64 0), .val (.int .u64 0), .val (.int .i64 0), .val (.int .i64 0)]) (by kernel_rfl) rfl (by decide) rfl rfl ?_ | refine T.store (t := 46) rfl rfl rfl (by kernel_rfl) (by kernel_rfl) (Nat.le_of_ble_eq_true (by kernel_rfl)) rfl rfl ?_)) | ((first | apply LT.cons1 | (apply LT.guard1; rfl; rfl; rfl; decide)); (first | exact OpH.callF Tryz.func30 rfl rfl rfl gX rfl | exact OpH.callF Tryz.func31 rfl rfl rfl gP rfl | exact OpH.callF Tryz.func12 rfl rfl rfl gO rfl | exact OpH.callF Tryz.func16 rfl rfl rfl gK rfl | exact arm7_1); decide) | refine LT.skip1 rfl rfl rfl (by decide) (by decide) ?_ | refine LT.skip2 rfl rfl (by decide) (by decide) ?_ | refine LT.partD rfl rfl (fun _ => ?_) (fun _ => ?_) | refine LT.partN rfl rfl (fun _ => ?_) (fun _ => ?_) | (refine LT.part1 rfl rfl (fun h => ?_) (fun h => ?_); (fail_if_success exact absurd h (by decide)); rotate_left; (fail_if_success exact absurd h (by decide)); rotate_left))
  refine ⟨by first | exact .inl rfl | exact .inr rfl, _, (.cons (.tmp 0 (A := .val _) rfl (fun _ h => by cases h)) .nil), ?_, rfl⟩
  rfl
end Go.Proofs.YtjmnnkhdadoehaaGreat
