/- law14.laid; PlanLaid: the walk. -/
import Derived.Test.YtjmnnkhdadoehaaGreatYPlnR
import Derived.Test.YtjmnnkhdadoehaaGreatYRibT
import Derived.Test.YtjmnnkhdadoehaaGreatYBuild
import Derived.Test.YtjmnnkhdadoehaaGreatYOpen
namespace Go.Proofs.YtjmnnkhdadoehaaGreat
set_option linter.unusedSimpArgs false
set_option linter.unusedVariables false
open Go Go.RowKit Go.Shelf
theorem pb_remN {P : Program} {xt : TypeId} {x y : Operand} {a b : Nat} {c : Int} (hc : c = (a : Int)) (hb : 0 < b) : PB P .rem xt x y (.int .i64 c) (.int .i64 (b : Int)) (.int .i64 ((a % b : Nat) : Int)) := by
  subst hc
  have e : Int.tmod (a : Int) (b : Int) = ((a % b : Nat) : Int) := rfl
  have hb' : ¬ (b : Int) = 0 := by omega
  rw [← e]
  intro w
  simp [eqGuard, binOp, Op.intDiv, show b ≠ 0 by omega]
theorem insPl_len (order : Int) (l : List Slt) (x : Ent) : (insPl order l x).1.length ≤ l.length + 3 := by
  unfold insPl
  split
  · exact insP_length l x
  · split
    · exact insC_len l x
    · simp
theorem seqE_at {es : List Ent} {k : Nat} (h : k < es.length) : (seqE es).drop k = nth es (sigma es.length k) :: (seqE es).drop (k + 1) := by
  have hk : k < (seqE es).length := by rw [seqE_length]; exact h
  rw [List.drop_eq_getElem_cons hk]
  have h0 : (seqE es)[k]? = some (nth es (sigma es.length k)) := by
    unfold seqE
    rw [List.getElem?_map, List.getElem?_range h]
    rfl
  rw [Option.some.inj ((List.getElem?_eq_getElem hk).symm.trans h0)]
attribute [local irreducible] OpH OpT LT CT HT Good
theorem arm9_1 {p : Prop} (h : p := by first | exact fm0 | exact fm53 | exact OpH.max2 rfl rfl | exact OpH.min2 rfl rfl | exact fm44 | exact fm41 | exact fm6 | exact OpH.bin rfl rfl (pb_mul (by omega)) | exact OpH.bin rfl rfl (pb_mulw) | exact fm4 | exact fm39 | exact OpH.indexA (t := 28) (k := 6) rfl rfl rfl rfl (by kernel_rfl) bd | exact fm63 | exact fm47 | exact fm15 | exact fm1 | exact fm7 | fail) : p := h
set_option maxRecDepth 100000 in
set_option maxHeartbeats 4000000 in
theorem g_laid (order n : Int) (es : List Ent) (hn : n ≤ 64) (hl : es.length ≤ 1000) : Good Tryz.prog 9 [.val (.int .i64 order), .val (.int .i64 n), .sl 6 (es.map encE)] (.tup [.sl 7 (((laidR order (List.replicate n.toNat zeroS) (seqE es)).getD []).map encS), .val (.bool (laidR order (List.replicate n.toNat zeroS) (seqE es)).isSome)]) := by
  have hz : (if (64 : Int) < (if n < 0 then 0 else n) then 64 else (if n < 0 then 0 else n)) = ((n.toNat : Nat) : Int) := by
    by_cases c : n < 0
    · rw [if_pos c, if_neg (by omega)]; omega
    · rw [if_neg c, if_neg (by omega)]; omega
  have hs0 : (List.replicate n.toNat [Value.bool false, .int .u64 0, .int .u64 0, .int .u64 0, .int .u64 0, .int .i64 0, .int .i64 0]) = (List.replicate n.toNat zeroS).map encS := by rw [List.map_replicate]; rfl
  have hnn : n.toNat ≤ 64 := by omega
  have hR : laidR order (List.replicate n.toNat zeroS) ((seqE es).drop 0) = laidR order (List.replicate n.toNat zeroS) (seqE es) := by rw [List.drop_zero]
  generalize laidR order (List.replicate n.toNat zeroS) (seqE es) = R at hR ⊢
  have hrl : (List.replicate n.toNat zeroS).length = n.toNat := List.length_replicate
  refine Good.of_body (T := [(0, _), (1, _), (2, _)]) Tryz.func9 rfl rfl rfl ?_
  intro K0 w0 hno
  repeat' (first | (refine LT.consT ?_; refine T.makeA (t := 30) (e := 48) (k := 7) (bytes := 56) (m := n.toNat) (zc := [Value.bool false, .int .u64 0, .int .u64 0, .int .u64 0, .int .u64 0, .int .i64 0, .int .i64 0]) rfl rfl hz hz (by kernel_rfl) (by kernel_rfl) rfl (by omega) (by decide) rfl ?_) | (apply LT.cons1; exact arm9_1; (try decide)) | refine stp ?_ | (refine stq ?_ ?_ <;> intro _))
  refine CT.froz hno.1 15 rfl rfl ?_
  rw [hs0]
  generalize List.replicate n.toNat zeroS = z0 at hR hrl
  refine CT.loopX (fun q : Nat × List Slt => (⟨[(0, .val (.int .i64 order)), (2, .sl 6 (es.map encE)), (8, .sl 7 (q.2.map encS)), (16, .sl 6 (es.map encE)), (17, .val (.int .i64 es.length)), (18, .val (.int .i64 q.1))], [], []⟩ : St))
    (fun q => q.1 ≤ es.length ∧ q.2.length = n.toNat ∧ laidR order q.2 ((seqE es).drop q.1) = R) (fun q => es.length - q.1) (0, z0) ?_ ⟨Nat.zero_le _, hrl, hR⟩ ?_
  · exact subT
  rintro ⟨k, sl⟩ ⟨hk, hsl, hlr⟩
  dsimp only at hk hsl hlr ⊢
  by_cases hlt : k < es.length
  · have hst : (if (insPl order sl (nth es (sigma es.length k))).2 = 0 then laidR order (applyW sl (insPl order sl (nth es (sigma es.length k))).1) ((seqE es).drop (k + 1)) else none) = R := by
      rw [← hlr, seqE_at hlt]; rfl
    have hj : (7 * k + 3) % es.length < es.length := Nat.mod_lt _ (by omega)
    obtain ⟨x1, h1⟩ : ∃ x, es[(7 * k + 3) % es.length] = x := ⟨_, rfl⟩
    have hat1 : (es.map encE)[(7 * k + 3) % es.length]? = some (encE x1) := by rw [List.getElem?_map, List.getElem?_eq_getElem hj, h1]; rfl
    obtain ⟨x2, h2⟩ : ∃ x, es[k] = x := ⟨_, rfl⟩
    have hat2 : (es.map encE)[k]? = some (encE x2) := by rw [List.getElem?_map, List.getElem?_eq_getElem hlt, h2]; rfl
    have g1 := g_plnInsert order sl x1 (by omega)
    have g2 := g_plnInsert order sl x2 (by omega)
    by_cases h7 : es.length % 7 = 0
    · have hsig : nth es (sigma es.length k) = x2 := by unfold sigma; rw [if_pos h7, nth_at _ hlt, h2]
      rw [hsig] at hst
      have hwl := insPl_len order sl x2
      have gA := g_Apply sl (insPl order sl x2).1 (by omega) (by omega)
      have hal := applyW_len (insPl order sl x2).1 sl
      generalize applyW sl (insPl order sl x2).1 = nx at gA hst hal
      generalize insPl order sl x2 = r2 at g2 hst gA
      obtain ⟨w2, e2⟩ := r2
      generalize insPl order sl x1 = r1 at g1
      obtain ⟨w1, e1⟩ := r1
      dsimp only at g1 g2 gA hst
      by_cases he : e2 = 0
      · rw [if_pos he] at hst
        repeat' (first | (apply LT.cons1; (first | exact OpH.bin rfl rfl (pb_remN (a := 7 * k + 3) (b := es.length) (by omega) (by omega)) | exact OpH.bin rfl rfl (pb_remN (a := es.length) (b := 7) rfl (by decide)) | exact OpH.indexS (t := 28) (k := 6) (j := (7 * k + 3) % es.length) rfl slP rfl rfl (by kernel_rfl) hat1 rfl | exact OpH.indexS (t := 28) (k := 6) (j := k) rfl slP rfl rfl (by kernel_rfl) hat2 rfl | exact OpH.callF Tryz.func37 rfl rfl rfl g1 rfl | exact OpH.callF Tryz.func37 rfl rfl rfl g2 rfl | exact OpH.callF Tryz.func15 rfl rfl rfl gA rfl); (try decide)) | (apply LT.cons1; exact arm9_1; (try decide)) | refine stp ?_ | (refine stq ?_ ?_ <;> intro _))
        refine ⟨(k + 1, nx), ⟨by dsimp only; omega, by dsimp only; omega, hst⟩, by dsimp only; omega, ?_⟩
        exact subT
      · rw [if_neg he] at hst
        subst hst
        repeat' (first | (refine CT.sub (S' := ⟨[(6, .sl 7 (([] : List Slt).map encS)), (7, .val (.bool false))], [], []⟩) ?_ (CT.ret ?_)) | (apply LT.cons1; (first | exact OpH.bin rfl rfl (pb_remN (a := 7 * k + 3) (b := es.length) (by omega) (by omega)) | exact OpH.bin rfl rfl (pb_remN (a := es.length) (b := 7) rfl (by decide)) | exact OpH.indexS (t := 28) (k := 6) (j := (7 * k + 3) % es.length) rfl slP rfl rfl (by kernel_rfl) hat1 rfl | exact OpH.indexS (t := 28) (k := 6) (j := k) rfl slP rfl rfl (by kernel_rfl) hat2 rfl | exact OpH.callF Tryz.func37 rfl rfl rfl g1 rfl | exact OpH.callF Tryz.func37 rfl rfl rfl g2 rfl); (try decide)) | (apply LT.cons1; exact arm9_1; (try decide)) | refine stp ?_ | (refine stq ?_ ?_ <;> intro _))
        · exact subT
        · refine ⟨by first | exact .inl rfl | exact .inr rfl, _, (.cons (.tmp 6 (A := .sl _ _) rfl (fun _ h => by cases h)) (.cons (.tmp 7 (A := .val _) rfl (fun _ h => by cases h)) .nil)), ?_, rfl⟩
          rfl
    · have hsig : nth es (sigma es.length k) = x1 := by unfold sigma; rw [if_neg h7, nth_at _ hj, h1]
      rw [hsig] at hst
      have hwl := insPl_len order sl x1
      have gA := g_Apply sl (insPl order sl x1).1 (by omega) (by omega)
      have hal := applyW_len (insPl order sl x1).1 sl
      generalize applyW sl (insPl order sl x1).1 = nx at gA hst hal
      generalize insPl order sl x1 = r1 at g1 hst gA
      obtain ⟨w1, e1⟩ := r1
      dsimp only at g1 gA hst
      by_cases he : e1 = 0
      · rw [if_pos he] at hst
        repeat' (first | (apply LT.cons1; (first | exact OpH.bin rfl rfl (pb_remN (a := 7 * k + 3) (b := es.length) (by omega) (by omega)) | exact OpH.bin rfl rfl (pb_remN (a := es.length) (b := 7) rfl (by decide)) | exact OpH.indexS (t := 28) (k := 6) (j := (7 * k + 3) % es.length) rfl slP rfl rfl (by kernel_rfl) hat1 rfl | exact OpH.callF Tryz.func37 rfl rfl rfl g1 rfl | exact OpH.callF Tryz.func15 rfl rfl rfl gA rfl); (try decide)) | (apply LT.cons1; exact arm9_1; (try decide)) | refine stp ?_ | (refine stq ?_ ?_ <;> intro _))
        refine ⟨(k + 1, nx), ⟨by dsimp only; omega, by dsimp only; omega, hst⟩, by dsimp only; omega, ?_⟩
        exact subT
      · rw [if_neg he] at hst
        subst hst
        repeat' (first | (refine CT.sub (S' := ⟨[(6, .sl 7 (([] : List Slt).map encS)), (7, .val (.bool false))], [], []⟩) ?_ (CT.ret ?_)) | (apply LT.cons1; (first | exact OpH.bin rfl rfl (pb_remN (a := 7 * k + 3) (b := es.length) (by omega) (by omega)) | exact OpH.bin rfl rfl (pb_remN (a := es.length) (b := 7) rfl (by decide)) | exact OpH.indexS (t := 28) (k := 6) (j := (7 * k + 3) % es.length) rfl slP rfl rfl (by kernel_rfl) hat1 rfl | exact OpH.callF Tryz.func37 rfl rfl rfl g1 rfl); (try decide)) | (apply LT.cons1; exact arm9_1; (try decide)) | refine stp ?_ | (refine stq ?_ ?_ <;> intro _))
        · exact subT
        · refine ⟨by first | exact .inl rfl | exact .inr rfl, _, (.cons (.tmp 6 (A := .sl _ _) rfl (fun _ h => by cases h)) (.cons (.tmp 7 (A := .val _) rfl (fun _ h => by cases h)) .nil)), ?_, rfl⟩
          rfl
  · obtain rfl : k = es.length := by omega
    rw [List.drop_eq_nil_of_le (by rw [seqE_length]; exact Nat.le_refl _)] at hlr
    have hlr : some sl = R := hlr
    subst hlr
    repeat' (first | (refine CT.sub (S' := ⟨[(6, .sl 7 (sl.map encS)), (7, .val (.bool true))], [], []⟩) ?_ (CT.ret ?_)) | (apply LT.cons1; exact arm9_1; (try decide)) | refine stp ?_ | (refine stq ?_ ?_ <;> intro _))
    · exact subT
    · refine ⟨by first | exact .inl rfl | exact .inr rfl, _, (.cons (.tmp 6 (A := .sl _ _) rfl (fun _ h => by cases h)) (.cons (.tmp 7 (A := .val _) rfl (fun _ h => by cases h)) .nil)), ?_, rfl⟩
      rfl
end Go.Proofs.YtjmnnkhdadoehaaGreat
