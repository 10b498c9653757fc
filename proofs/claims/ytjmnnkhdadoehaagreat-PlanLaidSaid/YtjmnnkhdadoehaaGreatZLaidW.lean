/- law14.laid; PlanLaid: the walk. -/
import Derived.Test.YtjmnnkhdadoehaaGreatZPlnR
import Derived.Test.YtjmnnkhdadoehaaGreatZLawPSets
import Derived.Test.YtjmnnkhdadoehaaGreatZRibT
import Derived.Test.YtjmnnkhdadoehaaGreatZBuild
import Derived.Test.YtjmnnkhdadoehaaGreatZOpen
namespace Go.Proofs.YtjmnnkhdadoehaaGreat
set_option linter.unusedSimpArgs false
set_option linter.unusedVariables false
open Go Go.RowKit Go.Shelf
theorem pb_remN {P : Program} {xt : TypeId} {x y : Operand} {a b : Nat} {c : Int} (hc : c = (a : Int)) (hb : 0 < b) : PB P .rem xt x y (.int .i64 c) (.int .i64 (b : Int)) (.int .i64 ((a % b : Nat) : Int)) := by
  subst hc
  have e : Int.tmod (a : Int) (b : Int) = ((a % b : Nat) : Int) := rfl
  have hb' : ¬ (b : Int) = 0 := by omega
  rw [← e]
  intro w
  simp [eqGuard, binOp, Op.intDiv, show b ≠ 0 by omega]
theorem insPl_len (order : Int) (l : List Slt) (x : Ent) : (insPl order l x).1.length ≤ l.length + 3 := by
  unfold insPl
  split
  · exact insP_length l x
  · split
    · exact insC_len l x
    · simp
theorem seqE_at {es : List Ent} {k : Nat} (h : k < es.length) : (seqE es).drop k = nth es (sigma es.length k) :: (seqE es).drop (k + 1) := by
  have hk : k < (seqE es).length := by rw [seqE_length]; exact h
  rw [List.drop_eq_getElem_cons hk]
  have h0 : (seqE es)[k]? = some (nth es (sigma es.length k)) := by
    unfold seqE
    rw [List.getElem?_map, List.getElem?_range h]
    rfl
  rw [Option.some.inj ((List.getElem?_eq_getElem hk).symm.trans h0)]
theorem buildE0_pfx {rs : List Rte} (ht : TableR rs) : ∀ e ∈ buildE rs 0, eRight e = true ∧ IsPfx e := fun e he => by
  unfold buildE at he
  rw [if_pos rfl] at he
  obtain ⟨r, hr, rfl⟩ := List.mem_map.1 (sortE_mem.1 he)
  have hc := ht.canon r hr
  refine ⟨?_, r.p, hc, rfl, rfl⟩
  have ha := ht.act r hr
  have h0 := hc.lo
  have h1 := hc.hi
  unfold eRight
  have hw : wRight (entR r).w = true := by
    have hcut := cut_canon hc
    unfold pMake at hcut
    rw [clamp_id h0 h1] at hcut
    have hcut2 : aCut r.p.a r.p.len = r.p.a := congrArg Pfx.a hcut
    unfold wRight same wClean
    rw [decide_eq_true_eq]
    show (⟨r.p.a, aMask r.p.len⟩ : W2) = ⟨aAnd r.p.a (aMask r.p.len), aMask r.p.len⟩
    have : aAnd r.p.a (aMask r.p.len) = r.p.a := hcut2
    rw [this]
  rw [hw]
  have e1 : (entR r).len = r.p.len := rfl
  have e2 : (entR r).act = r.act := rfl
  rw [e1, e2, decide_eq_true h0, decide_eq_true h1, decide_eq_true ha.1, decide_eq_true ha.2]
  rfl
attribute [local irreducible] OpH OpT LT CT HT Good
theorem arm9_1 {p : Prop} (h : p := by first | exact OpH.assign (v := .val _) rfl | exact OpH.assign (v := .sl _ _) rfl | exact OpH.assign (v := .row _ _ _ _) rfl | exact OpH.assign (v := .full _ _) rfl | exact OpH.assign (v := .ptr _ _) rfl | exact OpH.assign (v := .cptr _) rfl | exact OpH.assign (v := .cloB _ _) rfl | exact OpH.assign (v := .clo _ _) rfl | exact OpH.assign (v := .pr _) rfl | exact OpH.assign (v := .arow _) rfl | exact OpH.assign (v := .aptr _ _ _ _) rfl | exact OpH.assign (v := .asub _ _ _ _) rfl | exact OpH.assign (v := .tup _) rfl | exact OpH.move (v := .val _) rfl | exact OpH.move (v := .sl _ _) rfl | exact OpH.move (v := .row _ _ _ _) rfl | exact OpH.move (v := .full _ _) rfl | exact OpH.move (v := .ptr _ _) rfl | exact OpH.move (v := .cptr _) rfl | exact OpH.move (v := .cloB _ _) rfl | exact OpH.move (v := .clo _ _) rfl | exact OpH.move (v := .pr _) rfl | exact OpH.move (v := .arow _) rfl | exact OpH.move (v := .aptr _ _ _ _) rfl | exact OpH.move (v := .asub _ _ _ _) rfl | exact OpH.move (v := .tup _) rfl | exact OpH.max2 rfl rfl | exact OpH.min2 rfl rfl | exact OpH.lenM (t := 28) rfl (.sl _ _) (by kernel_rfl) | exact OpH.lenM (t := 28) rfl (.row _ _ _ _) (by kernel_rfl) | exact OpH.lenM (t := 28) rfl (.full _ _) (by kernel_rfl) | exact OpH.len (t := 28) rfl slP (by kernel_rfl) | exact OpH.lenNil (t := 28) rfl (by kernel_rfl) | exact OpH.lenA (t := 28) rfl rfl (by kernel_rfl) (List.length_map _) | exact OpH.lenA (t := 28) rfl rfl (by kernel_rfl) rfl | exact OpH.bin rfl rfl (pb_lss_t (by omega)) | exact OpH.bin rfl rfl (pb_lss_f (by omega)) | exact OpH.bin rfl rfl (pb_lss) | exact OpH.bin rfl rfl (pb_mul (by omega)) | exact OpH.bin rfl rfl (pb_mulw) | exact OpH.bin rfl rfl (pb_inc (by omega)) | exact OpH.bin rfl rfl (pb_addN rfl (by omega)) | exact OpH.bin rfl rfl (pb_add (by omega)) | exact OpH.bin rfl rfl (pb_addw) | exact OpH.indexS (t := 28) (k := 6) rfl slP rfl rfl (by kernel_rfl) (map_at bd) rfl | exact OpH.indexA (t := 28) (k := 6) rfl rfl rfl rfl (by kernel_rfl) bd | exact loadC6 (t := 46) rfl (by kernel_rfl) | exact loadB6 (t := 46) rfl rfl (by kernel_rfl) rfl | exact OpH.loadA (t := 46) (vs := [_, _, _, _, _, _]) rfl rfl rfl (map_at bd) (by kernel_rfl) rfl rfl | exact OpH.extract (v := .val _) rfl rfl (fun _ h => by cases h) | exact OpH.extract (v := .sl _ _) rfl rfl (fun _ h => by cases h) | exact OpH.extract (v := .row _ _ _ _) rfl rfl (fun _ h => by cases h) | exact OpH.extract (v := .full _ _) rfl rfl (fun _ h => by cases h) | exact OpH.bin rfl rfl (pb_eql_t (by first | omega | assumption)) | exact OpH.bin rfl rfl (pb_eql_f (by first | omega | assumption)) | exact OpH.bin rfl rfl (pb_eql) | exact OpH.bin rfl rfl (pb_neq_t (by first | omega | assumption)) | exact OpH.bin rfl rfl (pb_neq_f (by first | omega | assumption)) | exact OpH.bin rfl rfl (pb_neq)) : p := h
set_option maxRecDepth 100000 in
set_option maxHeartbeats 4000000 in
theorem g_laid (order n : Int) (es : List Ent) (hn : n ≤ 64) (hl : es.length ≤ 1000) : Good Tryz.prog 9 [.val (.int .i64 order), .val (.int .i64 n), .sl 6 (es.map encE)] (.tup [.sl 7 (((laidR order (List.replicate n.toNat zeroS) (seqE es)).getD []).map encS), .val (.bool (laidR order (List.replicate n.toNat zeroS) (seqE es)).isSome)]) := by
  have hz : (if (64 : Int) < (if n < 0 then 0 else n) then 64 else (if n < 0 then 0 else n)) = ((n.toNat : Nat) : Int) := by
    by_cases c : n < 0
    · rw [if_pos c, if_neg (by omega)]; omega
    · rw [if_neg c, if_neg (by omega)]; omega
  have hs0 : (List.replicate n.toNat [Value.bool false, .int .u64 0, .int .u64 0, .int .u64 0, .int .u64 0, .int .i64 0, .int .i64 0]) = (List.replicate n.toNat zeroS).map encS := by rw [List.map_replicate]; rfl
  have hnn : n.toNat ≤ 64 := by omega
  have hR : laidR order (List.replicate n.toNat zeroS) ((seqE es).drop 0) = laidR order (List.replicate n.toNat zeroS) (seqE es) := by rw [List.drop_zero]
  generalize laidR order (List.replicate n.toNat zeroS) (seqE es) = R at hR ⊢
  have hrl : (List.replicate n.toNat zeroS).length = n.toNat := List.length_replicate
  refine Good.of_body (T := [(0, _), (1, _), (2, _)]) Tryz.func9 rfl rfl rfl ?_
  intro K0 w0 hno
  repeat' (first | (refine LT.consT ?_; refine T.makeA (t := 30) (e := 48) (k := 7) (bytes := 56) (m := n.toNat) (zc := [Value.bool false, .int .u64 0, .int .u64 0, .int .u64 0, .int .u64 0, .int .i64 0, .int .i64 0]) rfl rfl hz hz (by kernel_rfl) (by kernel_rfl) rfl (by omega) (by decide) rfl ?_) | refine CT.seqR ?_ | refine CT.region ?_ | refine CT.seq1 ?_ | refine CT.block ?_ | refine CT.condT rfl ?_ | refine CT.condF rfl ?_ | refine CT.condD rfl (fun _ => ?_) (fun _ => ?_) | refine CT.condN rfl (fun _ => ?_) (fun _ => ?_) | refine CT.cond rfl (fun _ => ?_) (fun _ => ?_) | refine CT.skip ?_ | refine CT.exit ?_ | refine CT.ret ?_ | refine LT.nil ?_ | refine HT.nil1 ?_ | (apply LT.cons1; (first | exact arm9_1); decide))
  refine CT.froz hno.1 15 rfl rfl ?_
  rw [hs0]
  generalize List.replicate n.toNat zeroS = z0 at hR hrl
  refine CT.loopX (fun q : Nat × List Slt => (⟨[(0, .val (.int .i64 order)), (2, .sl 6 (es.map encE)), (8, .sl 7 (q.2.map encS)), (16, .sl 6 (es.map encE)), (17, .val (.int .i64 es.length)), (18, .val (.int .i64 q.1))], [], []⟩ : St))
    (fun q => q.1 ≤ es.length ∧ q.2.length = n.toNat ∧ laidR order q.2 ((seqE es).drop q.1) = R) (fun q => es.length - q.1) (0, z0) ?_ ⟨Nat.zero_le _, hrl, hR⟩ ?_
  · (apply Sub.mk; (focus (repeat (first | exact .nil | refine .other (.keep rfl rfl) ?_ | refine .other (.aref rfl rfl rfl) ?_ | refine .other (.val rfl (by first | rfl | (congr 1; first | omega | assumption | (symm; assumption)) | (simp; omega))) ?_ | refine .other .dead ?_ | refine .other (.sl rfl (.row _ _ _ _) rfl) ?_ | refine .other (.sl rfl (.sl _ _) rfl) ?_ | refine .other (.sl rfl (.full _ _) rfl) ?_ | refine .other (.slNil rfl rfl) ?_ | refine .rowNil rfl rfl rfl ?_ | refine .row rfl (by first | rfl | assumption | (rw [← List.map_append]; first | done | rfl | congr 1)) rfl rfl ?_))); (focus (repeat (first | exact .nil | refine KeepB.same rfl rfl rfl ?_ | refine KeepB.sameA rfl rfl rfl ?_))); (focus (repeat (first | exact .nil | refine KeepA.cons rfl (by first | rfl | assumption | exact List.map_set | exact List.map_set.symm | (rw [← List.map_append]; first | done | rfl | congr 1) | (congr 1; first | omega | assumption)) ?_))))
  rintro ⟨k, sl⟩ ⟨hk, hsl, hlr⟩
  dsimp only at hk hsl hlr ⊢
  by_cases hlt : k < es.length
  · have hst : (if (insPl order sl (nth es (sigma es.length k))).2 = 0 then laidR order (applyW sl (insPl order sl (nth es (sigma es.length k))).1) ((seqE es).drop (k + 1)) else none) = R := by
      rw [← hlr, seqE_at hlt]; rfl
    have hj : (7 * k + 3) % es.length < es.length := Nat.mod_lt _ (by omega)
    obtain ⟨x1, h1⟩ : ∃ x, es[(7 * k + 3) % es.length] = x := ⟨_, rfl⟩
    have hat1 : (es.map encE)[(7 * k + 3) % es.length]? = some (encE x1) := by rw [List.getElem?_map, List.getElem?_eq_getElem hj, h1]; rfl
    obtain ⟨x2, h2⟩ : ∃ x, es[k] = x := ⟨_, rfl⟩
    have hat2 : (es.map encE)[k]? = some (encE x2) := by rw [List.getElem?_map, List.getElem?_eq_getElem hlt, h2]; rfl
    have g1 := g_plnInsert order sl x1 (by omega)
    have g2 := g_plnInsert order sl x2 (by omega)
    by_cases h7 : es.length % 7 = 0
    · have hsig : nth es (sigma es.length k) = x2 := by unfold sigma; rw [if_pos h7, nth_at _ hlt, h2]
      rw [hsig] at hst
      have hwl := insPl_len order sl x2
      have gA := g_Apply sl (insPl order sl x2).1 (by omega) (by omega)
      have hal := applyW_len (insPl order sl x2).1 sl
      generalize applyW sl (insPl order sl x2).1 = nx at gA hst hal
      generalize insPl order sl x2 = r2 at g2 hst gA
      obtain ⟨w2, e2⟩ := r2
      generalize insPl order sl x1 = r1 at g1
      obtain ⟨w1, e1⟩ := r1
      dsimp only at g1 g2 gA hst
      by_cases he : e2 = 0
      · rw [if_pos he] at hst
        repeat' (first | refine CT.seqR ?_ | refine CT.region ?_ | refine CT.seq1 ?_ | refine CT.block ?_ | refine CT.condT rfl ?_ | refine CT.condF rfl ?_ | refine CT.condD rfl (fun _ => ?_) (fun _ => ?_) | refine CT.condN rfl (fun _ => ?_) (fun _ => ?_) | refine CT.cond rfl (fun _ => ?_) (fun _ => ?_) | refine CT.skip ?_ | refine CT.exit ?_ | refine CT.ret ?_ | refine LT.nil ?_ | refine HT.nil1 ?_ | (apply LT.cons1; (first | exact OpH.bin rfl rfl (pb_remN (a := 7 * k + 3) (b := es.length) (by omega) (by omega)) | exact OpH.bin rfl rfl (pb_remN (a := es.length) (b := 7) rfl (by decide)) | exact OpH.indexS (t := 28) (k := 6) (j := (7 * k + 3) % es.length) rfl slP rfl rfl (by kernel_rfl) hat1 rfl | exact OpH.indexS (t := 28) (k := 6) (j := k) rfl slP rfl rfl (by kernel_rfl) hat2 rfl | exact OpH.callF Tryz.func37 rfl rfl rfl g1 rfl | exact OpH.callF Tryz.func37 rfl rfl rfl g2 rfl | exact OpH.callF Tryz.func15 rfl rfl rfl gA rfl | exact arm9_1); decide))
        refine ⟨(k + 1, nx), ⟨by dsimp only; omega, by dsimp only; omega, hst⟩, by dsimp only; omega, ?_⟩
        (apply Sub.mk; (focus (repeat (first | exact .nil | refine .other (.keep rfl rfl) ?_ | refine .other (.aref rfl rfl rfl) ?_ | refine .other (.val rfl (by first | rfl | (congr 1; first | omega | assumption | (symm; assumption)) | (simp; omega))) ?_ | refine .other .dead ?_ | refine .other (.sl rfl (.row _ _ _ _) rfl) ?_ | refine .other (.sl rfl (.sl _ _) rfl) ?_ | refine .other (.sl rfl (.full _ _) rfl) ?_ | refine .other (.slNil rfl rfl) ?_ | refine .rowNil rfl rfl rfl ?_ | refine .row rfl (by first | rfl | assumption | (rw [← List.map_append]; first | done | rfl | congr 1)) rfl rfl ?_))); (focus (repeat (first | exact .nil | refine KeepB.same rfl rfl rfl ?_ | refine KeepB.sameA rfl rfl rfl ?_))); (focus (repeat (first | exact .nil | refine KeepA.cons rfl (by first | rfl | assumption | exact List.map_set | exact List.map_set.symm | (rw [← List.map_append]; first | done | rfl | congr 1) | (congr 1; first | omega | assumption)) ?_))))
      · rw [if_neg he] at hst
        subst hst
        repeat' (first | (refine CT.sub (S' := ⟨[(6, .sl 7 (([] : List Slt).map encS)), (7, .val (.bool false))], [], []⟩) ?_ (CT.ret ?_)) | refine CT.seqR ?_ | refine CT.region ?_ | refine CT.seq1 ?_ | refine CT.block ?_ | refine CT.condT rfl ?_ | refine CT.condF rfl ?_ | refine CT.condD rfl (fun _ => ?_) (fun _ => ?_) | refine CT.condN rfl (fun _ => ?_) (fun _ => ?_) | refine CT.cond rfl (fun _ => ?_) (fun _ => ?_) | refine CT.skip ?_ | refine CT.exit ?_ | refine CT.ret ?_ | refine LT.nil ?_ | refine HT.nil1 ?_ | (apply LT.cons1; (first | exact OpH.bin rfl rfl (pb_remN (a := 7 * k + 3) (b := es.length) (by omega) (by omega)) | exact OpH.bin rfl rfl (pb_remN (a := es.length) (b := 7) rfl (by decide)) | exact OpH.indexS (t := 28) (k := 6) (j := (7 * k + 3) % es.length) rfl slP rfl rfl (by kernel_rfl) hat1 rfl | exact OpH.indexS (t := 28) (k := 6) (j := k) rfl slP rfl rfl (by kernel_rfl) hat2 rfl | exact OpH.callF Tryz.func37 rfl rfl rfl g1 rfl | exact OpH.callF Tryz.func37 rfl rfl rfl g2 rfl | exact arm9_1); decide))
        · (apply Sub.mk; (focus (repeat (first | exact .nil | refine .other (.keep rfl rfl) ?_ | refine .other (.aref rfl rfl rfl) ?_ | refine .other (.val rfl (by first | rfl | (congr 1; first | omega | assumption | (symm; assumption)) | (simp; omega))) ?_ | refine .other .dead ?_ | refine .other (.sl rfl (.row _ _ _ _) rfl) ?_ | refine .other (.sl rfl (.sl _ _) rfl) ?_ | refine .other (.sl rfl (.full _ _) rfl) ?_ | refine .other (.slNil rfl rfl) ?_ | refine .rowNil rfl rfl rfl ?_ | refine .row rfl (by first | rfl | assumption | (rw [← List.map_append]; first | done | rfl | congr 1)) rfl rfl ?_))); (focus (repeat (first | exact .nil | refine KeepB.same rfl rfl rfl ?_ | refine KeepB.sameA rfl rfl rfl ?_))); (focus (repeat (first | exact .nil | refine KeepA.cons rfl (by first | rfl | assumption | exact List.map_set | exact List.map_set.symm | (rw [← List.map_append]; first | done | rfl | congr 1) | (congr 1; first | omega | assumption)) ?_))))
        · refine ⟨by first | exact .inl rfl | exact .inr rfl, _, (.cons (.tmp 6 (A := .sl _ _) rfl (fun _ h => by cases h)) (.cons (.tmp 7 (A := .val _) rfl (fun _ h => by cases h)) .nil)), ?_, rfl⟩
          rfl
    · have hsig : nth es (sigma es.length k) = x1 := by unfold sigma; rw [if_neg h7, nth_at _ hj, h1]
      rw [hsig] at hst
      have hwl := insPl_len order sl x1
      have gA := g_Apply sl (insPl order sl x1).1 (by omega) (by omega)
      have hal := applyW_len (insPl order sl x1).1 sl
      generalize applyW sl (insPl order sl x1).1 = nx at gA hst hal
      generalize insPl order sl x1 = r1 at g1 hst gA
      obtain ⟨w1, e1⟩ := r1
      dsimp only at g1 gA hst
      by_cases he : e1 = 0
      · rw [if_pos he] at hst
        repeat' (first | refine CT.seqR ?_ | refine CT.region ?_ | refine CT.seq1 ?_ | refine CT.block ?_ | refine CT.condT rfl ?_ | refine CT.condF rfl ?_ | refine CT.condD rfl (fun _ => ?_) (fun _ => ?_) | refine CT.condN rfl (fun _ => ?_) (fun _ => ?_) | refine CT.cond rfl (fun _ => ?_) (fun _ => ?_) | refine CT.skip ?_ | refine CT.exit ?_ | refine CT.ret ?_ | refine LT.nil ?_ | refine HT.nil1 ?_ | (apply LT.cons1; (first | exact OpH.bin rfl rfl (pb_remN (a := 7 * k + 3) (b := es.length) (by omega) (by omega)) | exact OpH.bin rfl rfl (pb_remN (a := es.length) (b := 7) rfl (by decide)) | exact OpH.indexS (t := 28) (k := 6) (j := (7 * k + 3) % es.length) rfl slP rfl rfl (by kernel_rfl) hat1 rfl | exact OpH.callF Tryz.func37 rfl rfl rfl g1 rfl | exact OpH.callF Tryz.func15 rfl rfl rfl gA rfl | exact arm9_1); decide))
        refine ⟨(k + 1, nx), ⟨by dsimp only; omega, by dsimp only; omega, hst⟩, by dsimp only; omega, ?_⟩
        (apply Sub.mk; (focus (repeat (first | exact .nil | refine .other (.keep rfl rfl) ?_ | refine .other (.aref rfl rfl rfl) ?_ | refine .other (.val rfl (by first | rfl | (congr 1; first | omega | assumption | (symm; assumption)) | (simp; omega))) ?_ | refine .other .dead ?_ | refine .other (.sl rfl (.row _ _ _ _) rfl) ?_ | refine .other (.sl rfl (.sl _ _) rfl) ?_ | refine .other (.sl rfl (.full _ _) rfl) ?_ | refine .other (.slNil rfl rfl) ?_ | refine .rowNil rfl rfl rfl ?_ | refine .row rfl (by first | rfl | assumption | (rw [← List.map_append]; first | done | rfl | congr 1)) rfl rfl ?_))); (focus (repeat (first | exact .nil | refine KeepB.same rfl rfl rfl ?_ | refine KeepB.sameA rfl rfl rfl ?_))); (focus (repeat (first | exact .nil | refine KeepA.cons rfl (by first | rfl | assumption | exact List.map_set | exact List.map_set.symm | (rw [← List.map_append]; first | done | rfl | congr 1) | (congr 1; first | omega | assumption)) ?_))))
      · rw [if_neg he] at hst
        subst hst
        repeat' (first | (refine CT.sub (S' := ⟨[(6, .sl 7 (([] : List Slt).map encS)), (7, .val (.bool false))], [], []⟩) ?_ (CT.ret ?_)) | refine CT.seqR ?_ | refine CT.region ?_ | refine CT.seq1 ?_ | refine CT.block ?_ | refine CT.condT rfl ?_ | refine CT.condF rfl ?_ | refine CT.condD rfl (fun _ => ?_) (fun _ => ?_) | refine CT.condN rfl (fun _ => ?_) (fun _ => ?_) | refine CT.cond rfl (fun _ => ?_) (fun _ => ?_) | refine CT.skip ?_ | refine CT.exit ?_ | refine CT.ret ?_ | refine LT.nil ?_ | refine HT.nil1 ?_ | (apply LT.cons1; (first | exact OpH.bin rfl rfl (pb_remN (a := 7 * k + 3) (b := es.length) (by omega) (by omega)) | exact OpH.bin rfl rfl (pb_remN (a := es.length) (b := 7) rfl (by decide)) | exact OpH.indexS (t := 28) (k := 6) (j := (7 * k + 3) % es.length) rfl slP rfl rfl (by kernel_rfl) hat1 rfl | exact OpH.callF Tryz.func37 rfl rfl rfl g1 rfl | exact arm9_1); decide))
        · (apply Sub.mk; (focus (repeat (first | exact .nil | refine .other (.keep rfl rfl) ?_ | refine .other (.aref rfl rfl rfl) ?_ | refine .other (.val rfl (by first | rfl | (congr 1; first | omega | assumption | (symm; assumption)) | (simp; omega))) ?_ | refine .other .dead ?_ | refine .other (.sl rfl (.row _ _ _ _) rfl) ?_ | refine .other (.sl rfl (.sl _ _) rfl) ?_ | refine .other (.sl rfl (.full _ _) rfl) ?_ | refine .other (.slNil rfl rfl) ?_ | refine .rowNil rfl rfl rfl ?_ | refine .row rfl (by first | rfl | assumption | (rw [← List.map_append]; first | done | rfl | congr 1)) rfl rfl ?_))); (focus (repeat (first | exact .nil | refine KeepB.same rfl rfl rfl ?_ | refine KeepB.sameA rfl rfl rfl ?_))); (focus (repeat (first | exact .nil | refine KeepA.cons rfl (by first | rfl | assumption | exact List.map_set | exact List.map_set.symm | (rw [← List.map_append]; first | done | rfl | congr 1) | (congr 1; first | omega | assumption)) ?_))))
        · refine ⟨by first | exact .inl rfl | exact .inr rfl, _, (.cons (.tmp 6 (A := .sl _ _) rfl (fun _ h => by cases h)) (.cons (.tmp 7 (A := .val _) rfl (fun _ h => by cases h)) .nil)), ?_, rfl⟩
          rfl
  · obtain rfl : k = es.length := by omega
    rw [List.drop_eq_nil_of_le (by rw [seqE_length]; exact Nat.le_refl _)] at hlr
    have hlr : some sl = R := hlr
    subst hlr
    repeat' (first | (refine CT.sub (S' := ⟨[(6, .sl 7 (sl.map encS)), (7, .val (.bool true))], [], []⟩) ?_ (CT.ret ?_)) | refine CT.seqR ?_ | refine CT.region ?_ | refine CT.seq1 ?_ | refine CT.block ?_ | refine CT.condT rfl ?_ | refine CT.condF rfl ?_ | refine CT.condD rfl (fun _ => ?_) (fun _ => ?_) | refine CT.condN rfl (fun _ => ?_) (fun _ => ?_) | refine CT.cond rfl (fun _ => ?_) (fun _ => ?_) | refine CT.skip ?_ | refine CT.exit ?_ | refine CT.ret ?_ | refine LT.nil ?_ | refine HT.nil1 ?_ | (apply LT.cons1; (first | exact arm9_1); decide))
    · (apply Sub.mk; (focus (repeat (first | exact .nil | refine .other (.keep rfl rfl) ?_ | refine .other (.aref rfl rfl rfl) ?_ | refine .other (.val rfl (by first | rfl | (congr 1; first | omega | assumption | (symm; assumption)) | (simp; omega))) ?_ | refine .other .dead ?_ | refine .other (.sl rfl (.row _ _ _ _) rfl) ?_ | refine .other (.sl rfl (.sl _ _) rfl) ?_ | refine .other (.sl rfl (.full _ _) rfl) ?_ | refine .other (.slNil rfl rfl) ?_ | refine .rowNil rfl rfl rfl ?_ | refine .row rfl (by first | rfl | assumption | (rw [← List.map_append]; first | done | rfl | congr 1)) rfl rfl ?_))); (focus (repeat (first | exact .nil | refine KeepB.same rfl rfl rfl ?_ | refine KeepB.sameA rfl rfl rfl ?_))); (focus (repeat (first | exact .nil | refine KeepA.cons rfl (by first | rfl | assumption | exact List.map_set | exact List.map_set.symm | (rw [← List.map_append]; first | done | rfl | congr 1) | (congr 1; first | omega | assumption)) ?_))))
    · refine ⟨by first | exact .inl rfl | exact .inr rfl, _, (.cons (.tmp 6 (A := .sl _ _) rfl (fun _ h => by cases h)) (.cons (.tmp 7 (A := .val _) rfl (fun _ h => by cases h)) .nil)), ?_, rfl⟩
      rfl
theorem arm3_1 {p : Prop} (h : p := by first | exact OpH.assign (v := .val _) rfl | exact OpH.assign (v := .sl _ _) rfl | exact OpH.assign (v := .row _ _ _ _) rfl | exact OpH.assign (v := .full _ _) rfl | exact OpH.assign (v := .ptr _ _) rfl | exact OpH.assign (v := .cptr _) rfl | exact OpH.assign (v := .cloB _ _) rfl | exact OpH.assign (v := .clo _ _) rfl | exact OpH.assign (v := .pr _) rfl | exact OpH.assign (v := .arow _) rfl | exact OpH.assign (v := .aptr _ _ _ _) rfl | exact OpH.assign (v := .asub _ _ _ _) rfl | exact OpH.assign (v := .tup _) rfl | exact OpH.move (v := .val _) rfl | exact OpH.move (v := .sl _ _) rfl | exact OpH.move (v := .row _ _ _ _) rfl | exact OpH.move (v := .full _ _) rfl | exact OpH.move (v := .ptr _ _) rfl | exact OpH.move (v := .cptr _) rfl | exact OpH.move (v := .cloB _ _) rfl | exact OpH.move (v := .clo _ _) rfl | exact OpH.move (v := .pr _) rfl | exact OpH.move (v := .arow _) rfl | exact OpH.move (v := .aptr _ _ _ _) rfl | exact OpH.move (v := .asub _ _ _ _) rfl | exact OpH.move (v := .tup _) rfl | exact OpH.un rfl un_not | exact OpH.un rfl (un_neg (by omega)) | exact OpH.lenM (t := 22) rfl (.sl _ _) (by kernel_rfl) | exact OpH.lenM (t := 22) rfl (.row _ _ _ _) (by kernel_rfl) | exact OpH.lenM (t := 22) rfl (.full _ _) (by kernel_rfl) | exact OpH.len (t := 22) rfl slP (by kernel_rfl) | exact OpH.lenNil (t := 22) rfl (by kernel_rfl) | exact OpH.bin rfl rfl (pb_gtr_t (by omega)) | exact OpH.bin rfl rfl (pb_gtr_f (by omega)) | exact OpH.bin rfl rfl (pb_gtr) | exact OpH.pick (b := true) (v := .val _) rfl rfl | exact OpH.pick (b := false) (v := .val _) rfl rfl | exact OpH.pick (b := true) (v := .sl _ _) rfl rfl | exact OpH.pick (b := false) (v := .sl _ _) rfl rfl | exact OpH.pick (b := true) (v := .row _ _ _ _) rfl rfl | exact OpH.pick (b := false) (v := .row _ _ _ _) rfl rfl | exact OpH.pick (b := true) (v := .full _ _) rfl rfl | exact OpH.pick (b := false) (v := .full _ _) rfl rfl | exact OpH.pickV rfl rfl rfl | exact OpH.callF Tryz.func7 rfl rfl rfl (g_awake14) rfl | exact OpH.extract (v := .val _) rfl rfl (fun _ h => by cases h) | exact OpH.extract (v := .sl _ _) rfl rfl (fun _ h => by cases h) | exact OpH.extract (v := .row _ _ _ _) rfl rfl (fun _ h => by cases h) | exact OpH.extract (v := .full _ _) rfl rfl (fun _ h => by cases h) | exact OpH.bin (xt := 4) rfl rfl (pb_of (pb_neqB (by kernel_rfl)) (nbeqB_f (by first | rfl | assumption))) | exact OpH.bin (xt := 4) rfl rfl (pb_neqB (by kernel_rfl)) | exact loadC2 (t := 25) rfl (by kernel_rfl) | exact loadB2 (t := 25) rfl rfl (by kernel_rfl) rfl | exact OpH.bin rfl rfl (pb_eql_t (by first | omega | assumption)) | exact OpH.bin rfl rfl (pb_eql_f (by first | omega | assumption)) | exact OpH.bin rfl rfl (pb_eql)) : p := h
set_option maxRecDepth 100000 in
set_option maxHeartbeats 4000000 in
theorem g_PlanLaid (n : Int) (rs : List Rte) (a : A2) (ha : a.ok) (hok : ∀ r ∈ rs, r.p.a.ok) (hl : rs.length ≤ 9223372036854775807) : Good Tryz.prog 3 [.val (.int .i64 n), .sl 4 (rs.map encR), .val (.agg #[.int .u64 a.x, .int .u64 a.y])] (.val (.bool true)) := by
  have gW := g_awake14
  refine Good.of_body (T := [(0, _), (1, _), (2, _)]) Tryz.func3 rfl rfl rfl ?_
  intro K0 w0 hno
  by_cases hT : TableR rs ∧ rs.length ≤ 24
  · have gT := g_law9Table rs true (by simp [hT]) hok hl
    by_cases h10 : rs.length ≤ 10
    · by_cases h20 : n ≤ 20
      · have gB := g_Build0 rs hT.1 (by omega)
        have hpf := buildE0_pfx hT.1
        obtain ⟨s1, s2, s3⟩ := buildE_says hT.1 ha 0
        have hbl : (buildE rs 0).length = rs.length := (buildE_len hT.1).1
        have gL0 := g_laid 0 n (buildE rs 0) (by omega) (by omega)
        have gL1 := g_laid 1 n (buildE rs 0) (by omega) (by omega)
        obtain ⟨y1, y2⟩ := laid_zero (order := 0) rfl (by omega) hpf n.toNat
        obtain ⟨z1, z2⟩ := laid_zero (order := 1) rfl (by omega) hpf n.toNat
        have gRT := g_ribTell rs a hT.1 ha (by omega)
        rw [← s3] at gRT
        have hno := simple_noClash s2 s1 ha
        by_cases hroom : (buildE rs 0).length ≤ n.toNat
        · obtain ⟨t0, a1, a2, a3, a4⟩ := y1 hroom
          obtain ⟨t1, b1, b2, b3, b4⟩ := z1 hroom
          rw [a1] at gL0
          rw [b1] at gL1
          have gt0 := g_Tell t0 a (by omega)
          have gt1 := g_Tell t1 a (by omega)
          rw [tellS_of (keptPl_ordered a2) (fun e => a3.mem_iff) s1 ha hno] at gt0
          rw [tellS_of (keptPl_ordered b2) (fun e => b3.mem_iff) s1 ha hno] at gt1
          clear y1 y2 z1 z2 a3 b3 s3 hpf s1 s2 hno hT
          generalize tell (buildE rs 0) a = tl at gt0 gt1 gRT
          generalize buildE rs 0 = bs at gB gL0 gL1
          have gL0 : Good Tryz.prog 9 [.val (.int .i64 0), .val (.int .i64 n), .sl 6 (bs.map encE)] (.tup [.sl 7 (t0.map encS), .val (.bool true)]) := gL0
          have gL1 : Good Tryz.prog 9 [.val (.int .i64 1), .val (.int .i64 n), .sl 6 (bs.map encE)] (.tup [.sl 7 (t1.map encS), .val (.bool true)]) := gL1
          repeat' (first | (refine LT.consT ?_; refine T.callRow Tryz.func8 rfl rfl rfl gB (by decide) rfl ?_) | refine CT.seqR ?_ | refine CT.seqD (id := 8) 23 (by kernel_rfl) (by kernel_rfl) ?_ | refine CT.draw (id := 8) 23 (by kernel_rfl) (by kernel_rfl) ?_ | refine CT.region ?_ | refine CT.seq1 ?_ | refine CT.block ?_ | refine CT.condT rfl ?_ | refine CT.condF rfl ?_ | refine CT.condD rfl (fun _ => ?_) (fun _ => ?_) | refine CT.condN rfl (fun _ => ?_) (fun _ => ?_) | refine CT.cond rfl (fun _ => ?_) (fun _ => ?_) | refine CT.skip ?_ | refine CT.exit ?_ | refine CT.ret ?_ | refine LT.nil ?_ | refine HT.nil1 ?_ | (refine LT.consT ?_; (first | refine T.box (e := 25) (cs := [.val _, .val _]) rfl rfl (by decide) rfl rfl ?_)) | ((first | apply LT.cons1 | (apply LT.guard1; rfl; rfl; rfl; decide) | apply HT.cons1 | (apply HT.guard1; rfl; rfl; rfl)); (first | exact OpH.callF Tryz.func6 rfl rfl rfl gT rfl | exact OpH.callF Tryz.func9 rfl rfl rfl gL0 rfl | exact OpH.callF Tryz.func9 rfl rfl rfl gL1 rfl | exact OpH.callF Tryz.func10 rfl rfl rfl gt0 rfl | exact OpH.callF Tryz.func10 rfl rfl rfl gt1 rfl | exact OpH.callF Tryz.func11 rfl rfl rfl gRT rfl | exact OpH.callF Tryz.func7 rfl rfl rfl gW rfl | exact arm3_1); (try decide)) | refine LT.skip1 rfl rfl rfl (by decide) (by decide) ?_ | refine LT.skip2 rfl rfl (by decide) (by decide) ?_ | refine LT.partD rfl rfl (fun _ => ?_) (fun _ => ?_) | refine LT.partN rfl rfl (fun _ => ?_) (fun _ => ?_) | refine HT.skip1 rfl rfl rfl ?_ | refine HT.skip2 rfl rfl ?_ | refine HT.partD rfl rfl (fun _ => ?_) (fun _ => ?_) | refine HT.partN rfl rfl (fun _ => ?_) (fun _ => ?_) | ((first | refine LT.part1 rfl rfl (fun h => ?_) (fun h => ?_) | refine HT.part1 rfl rfl (fun h => ?_) (fun h => ?_)); (fail_if_success exact absurd h (by decide)); rotate_left; (fail_if_success exact absurd h (by decide)); rotate_left))
          all_goals first
            | (refine ⟨by first | exact .inl rfl | exact .inr rfl, _, (.cons (.tmp 6 (A := .val _) rfl (fun _ h => by cases h)) .nil), ?_, rfl⟩; rfl)
            | (rename_i h; exact absurd rfl h)
        · rw [y2 hroom] at gL0
          rw [z2 hroom] at gL1
          clear y1 y2 z1 z2 s3 hpf s1 s2 hno hT
          generalize buildE rs 0 = bs at gB gL0 gL1
          have gL0 : Good Tryz.prog 9 [.val (.int .i64 0), .val (.int .i64 n), .sl 6 (bs.map encE)] (.tup [.sl 7 (([] : List Slt).map encS), .val (.bool false)]) := gL0
          have gL1 : Good Tryz.prog 9 [.val (.int .i64 1), .val (.int .i64 n), .sl 6 (bs.map encE)] (.tup [.sl 7 (([] : List Slt).map encS), .val (.bool false)]) := gL1
          repeat' (first | (refine LT.consT ?_; refine T.callRow Tryz.func8 rfl rfl rfl gB (by decide) rfl ?_) | refine CT.seqR ?_ | refine CT.seqD (id := 8) 23 (by kernel_rfl) (by kernel_rfl) ?_ | refine CT.draw (id := 8) 23 (by kernel_rfl) (by kernel_rfl) ?_ | refine CT.region ?_ | refine CT.seq1 ?_ | refine CT.block ?_ | refine CT.condT rfl ?_ | refine CT.condF rfl ?_ | refine CT.condD rfl (fun _ => ?_) (fun _ => ?_) | refine CT.condN rfl (fun _ => ?_) (fun _ => ?_) | refine CT.cond rfl (fun _ => ?_) (fun _ => ?_) | refine CT.skip ?_ | refine CT.exit ?_ | refine CT.ret ?_ | refine LT.nil ?_ | refine HT.nil1 ?_ | (refine LT.consT ?_; (first | refine T.box (e := 25) (cs := [.val _, .val _]) rfl rfl (by decide) rfl rfl ?_)) | ((first | apply LT.cons1 | (apply LT.guard1; rfl; rfl; rfl; decide) | apply HT.cons1 | (apply HT.guard1; rfl; rfl; rfl)); (first | exact OpH.callF Tryz.func6 rfl rfl rfl gT rfl | exact OpH.callF Tryz.func9 rfl rfl rfl gL0 rfl | exact OpH.callF Tryz.func9 rfl rfl rfl gL1 rfl | exact OpH.callF Tryz.func7 rfl rfl rfl gW rfl | exact arm3_1); (try decide)) | refine LT.skip1 rfl rfl rfl (by decide) (by decide) ?_ | refine LT.skip2 rfl rfl (by decide) (by decide) ?_ | refine LT.partD rfl rfl (fun _ => ?_) (fun _ => ?_) | refine LT.partN rfl rfl (fun _ => ?_) (fun _ => ?_) | refine HT.skip1 rfl rfl rfl ?_ | refine HT.skip2 rfl rfl ?_ | refine HT.partD rfl rfl (fun _ => ?_) (fun _ => ?_) | refine HT.partN rfl rfl (fun _ => ?_) (fun _ => ?_) | ((first | refine LT.part1 rfl rfl (fun h => ?_) (fun h => ?_) | refine HT.part1 rfl rfl (fun h => ?_) (fun h => ?_)); (fail_if_success exact absurd h (by decide)); rotate_left; (fail_if_success exact absurd h (by decide)); rotate_left))
          all_goals first
            | (refine ⟨by first | exact .inl rfl | exact .inr rfl, _, (.cons (.tmp 6 (A := .val _) rfl (fun _ h => by cases h)) .nil), ?_, rfl⟩; rfl)
            | (rename_i h; exact absurd rfl h)
      · repeat' (first | refine CT.seqR ?_ | refine CT.seqD (id := 8) 23 (by kernel_rfl) (by kernel_rfl) ?_ | refine CT.draw (id := 8) 23 (by kernel_rfl) (by kernel_rfl) ?_ | refine CT.region ?_ | refine CT.seq1 ?_ | refine CT.block ?_ | refine CT.condT rfl ?_ | refine CT.condF rfl ?_ | refine CT.condD rfl (fun _ => ?_) (fun _ => ?_) | refine CT.condN rfl (fun _ => ?_) (fun _ => ?_) | refine CT.cond rfl (fun _ => ?_) (fun _ => ?_) | refine CT.skip ?_ | refine CT.exit ?_ | refine CT.ret ?_ | refine LT.nil ?_ | refine HT.nil1 ?_ | (refine LT.consT ?_; (first | refine T.box (e := 25) (cs := [.val _, .val _]) rfl rfl (by decide) rfl rfl ?_)) | ((first | apply LT.cons1 | (apply LT.guard1; rfl; rfl; rfl; decide) | apply HT.cons1 | (apply HT.guard1; rfl; rfl; rfl)); (first | exact OpH.callF Tryz.func6 rfl rfl rfl gT rfl | exact OpH.callF Tryz.func7 rfl rfl rfl gW rfl | exact arm3_1); (try decide)) | refine LT.skip1 rfl rfl rfl (by decide) (by decide) ?_ | refine LT.skip2 rfl rfl (by decide) (by decide) ?_ | refine LT.partD rfl rfl (fun _ => ?_) (fun _ => ?_) | refine LT.partN rfl rfl (fun _ => ?_) (fun _ => ?_) | refine HT.skip1 rfl rfl rfl ?_ | refine HT.skip2 rfl rfl ?_ | refine HT.partD rfl rfl (fun _ => ?_) (fun _ => ?_) | refine HT.partN rfl rfl (fun _ => ?_) (fun _ => ?_) | ((first | refine LT.part1 rfl rfl (fun h => ?_) (fun h => ?_) | refine HT.part1 rfl rfl (fun h => ?_) (fun h => ?_)); (fail_if_success exact absurd h (by decide)); rotate_left; (fail_if_success exact absurd h (by decide)); rotate_left))
        refine ⟨by first | exact .inl rfl | exact .inr rfl, _, (.cons (.tmp 6 (A := .val _) rfl (fun _ h => by cases h)) .nil), ?_, rfl⟩
        rfl
    · repeat' (first | refine CT.seqR ?_ | refine CT.seqD (id := 8) 23 (by kernel_rfl) (by kernel_rfl) ?_ | refine CT.draw (id := 8) 23 (by kernel_rfl) (by kernel_rfl) ?_ | refine CT.region ?_ | refine CT.seq1 ?_ | refine CT.block ?_ | refine CT.condT rfl ?_ | refine CT.condF rfl ?_ | refine CT.condD rfl (fun _ => ?_) (fun _ => ?_) | refine CT.condN rfl (fun _ => ?_) (fun _ => ?_) | refine CT.cond rfl (fun _ => ?_) (fun _ => ?_) | refine CT.skip ?_ | refine CT.exit ?_ | refine CT.ret ?_ | refine LT.nil ?_ | refine HT.nil1 ?_ | (refine LT.consT ?_; (first | refine T.box (e := 25) (cs := [.val _, .val _]) rfl rfl (by decide) rfl rfl ?_)) | ((first | apply LT.cons1 | (apply LT.guard1; rfl; rfl; rfl; decide) | apply HT.cons1 | (apply HT.guard1; rfl; rfl; rfl)); (first | exact OpH.callF Tryz.func6 rfl rfl rfl gT rfl | exact OpH.callF Tryz.func7 rfl rfl rfl gW rfl | exact arm3_1); (try decide)) | refine LT.skip1 rfl rfl rfl (by decide) (by decide) ?_ | refine LT.skip2 rfl rfl (by decide) (by decide) ?_ | refine LT.partD rfl rfl (fun _ => ?_) (fun _ => ?_) | refine LT.partN rfl rfl (fun _ => ?_) (fun _ => ?_) | refine HT.skip1 rfl rfl rfl ?_ | refine HT.skip2 rfl rfl ?_ | refine HT.partD rfl rfl (fun _ => ?_) (fun _ => ?_) | refine HT.partN rfl rfl (fun _ => ?_) (fun _ => ?_) | ((first | refine LT.part1 rfl rfl (fun h => ?_) (fun h => ?_) | refine HT.part1 rfl rfl (fun h => ?_) (fun h => ?_)); (fail_if_success exact absurd h (by decide)); rotate_left; (fail_if_success exact absurd h (by decide)); rotate_left))
      refine ⟨by first | exact .inl rfl | exact .inr rfl, _, (.cons (.tmp 6 (A := .val _) rfl (fun _ h => by cases h)) .nil), ?_, rfl⟩
      rfl
  · have gT := g_law9Table rs false (by simp [hT]) hok hl
    repeat' (first | refine CT.seqR ?_ | refine CT.seqD (id := 8) 23 (by kernel_rfl) (by kernel_rfl) ?_ | refine CT.draw (id := 8) 23 (by kernel_rfl) (by kernel_rfl) ?_ | refine CT.region ?_ | refine CT.seq1 ?_ | refine CT.block ?_ | refine CT.condT rfl ?_ | refine CT.condF rfl ?_ | refine CT.condD rfl (fun _ => ?_) (fun _ => ?_) | refine CT.condN rfl (fun _ => ?_) (fun _ => ?_) | refine CT.cond rfl (fun _ => ?_) (fun _ => ?_) | refine CT.skip ?_ | refine CT.exit ?_ | refine CT.ret ?_ | refine LT.nil ?_ | refine HT.nil1 ?_ | (refine LT.consT ?_; (first | refine T.box (e := 25) (cs := [.val _, .val _]) rfl rfl (by decide) rfl rfl ?_)) | ((first | apply LT.cons1 | (apply LT.guard1; rfl; rfl; rfl; decide) | apply HT.cons1 | (apply HT.guard1; rfl; rfl; rfl)); (first | exact OpH.callF Tryz.func6 rfl rfl rfl gT rfl | exact OpH.callF Tryz.func7 rfl rfl rfl gW rfl | exact arm3_1); (try decide)) | refine LT.skip1 rfl rfl rfl (by decide) (by decide) ?_ | refine LT.skip2 rfl rfl (by decide) (by decide) ?_ | refine LT.partD rfl rfl (fun _ => ?_) (fun _ => ?_) | refine LT.partN rfl rfl (fun _ => ?_) (fun _ => ?_) | refine HT.skip1 rfl rfl rfl ?_ | refine HT.skip2 rfl rfl ?_ | refine HT.partD rfl rfl (fun _ => ?_) (fun _ => ?_) | refine HT.partN rfl rfl (fun _ => ?_) (fun _ => ?_) | ((first | refine LT.part1 rfl rfl (fun h => ?_) (fun h => ?_) | refine HT.part1 rfl rfl (fun h => ?_) (fun h => ?_)); (fail_if_success exact absurd h (by decide)); rotate_left; (fail_if_success exact absurd h (by decide)); rotate_left))
    refine ⟨by first | exact .inl rfl | exact .inr rfl, _, (.cons (.tmp 6 (A := .val _) rfl (fun _ h => by cases h)) .nil), ?_, rfl⟩
    rfl
theorem w_PlanLaid (n : Int) (A : Option Addr) (c : Nat) (rs : List Rte) (a : A2) (w : World) (hon : OkI n) (hcap : rs.length ≤ c) (hnil : A = none → c = 0) (hr : Reads encR 4 w A rs) (hoks : ∀ r ∈ rs, OkR r) (hoa : OkA a) :
    Calls Tryz.prog 3 #[.int .i64 n, .slice A rs.length c, .agg #[.int .u64 a.x, .int .u64 a.y]] w fun e w' => e = .returned (.bool true) ∧ Below w.heap.size w w' :=
  (g_PlanLaid n rs a hoa (fun r h => (hoks r h).1.1) hr.1).run (.val (.sl hcap hnil hr lenR oneR (.val .nil)))
end Go.Proofs.YtjmnnkhdadoehaaGreat
