/- Abstract contracts: searching a row by a function. -/
import Derived.Test.YtnklfbeiagkhiaaYAbs8
import Derived.Test.YtnklfbeiagkhiaaYGoods
namespace Go.Proofs.Ytnklfbeiagkhiaa
set_option linter.unusedSimpArgs false
set_option linter.unusedVariables false
open Go Go.RowKit Go.Shelf
attribute [local irreducible] OpH OpT LT CT HT Good
theorem arm134_1 {p : Prop} (h : p := by first | exact OpH.assign (v := .val _) rfl | exact OpH.assign (v := .sl _ _) rfl | exact OpH.assign (v := .row _ _ _ _) rfl | exact OpH.assign (v := .full _ _) rfl | exact OpH.assign (v := .ptr _ _) rfl | exact OpH.assign (v := .cptr _) rfl | exact OpH.assign (v := .cloB _ _) rfl | exact OpH.assign (v := .clo _ _) rfl | exact OpH.assign (v := .pr _) rfl | exact OpH.assign (v := .arow _) rfl | exact OpH.assign (v := .aptr _ _ _ _) rfl | exact OpH.assign (v := .asub _ _ _ _) rfl | exact OpH.assign (v := .tup _) rfl | exact OpH.move (v := .val _) rfl | exact OpH.move (v := .sl _ _) rfl | exact OpH.move (v := .row _ _ _ _) rfl | exact OpH.move (v := .full _ _) rfl | exact OpH.move (v := .ptr _ _) rfl | exact OpH.move (v := .cptr _) rfl | exact OpH.move (v := .cloB _ _) rfl | exact OpH.move (v := .clo _ _) rfl | exact OpH.move (v := .pr _) rfl | exact OpH.move (v := .arow _) rfl | exact OpH.move (v := .aptr _ _ _ _) rfl | exact OpH.move (v := .asub _ _ _ _) rfl | exact OpH.move (v := .tup _) rfl | exact OpH.lenM (t := 29) rfl (.sl _ _) (by kernel_rfl) | exact OpH.lenM (t := 29) rfl (.row _ _ _ _) (by kernel_rfl) | exact OpH.lenM (t := 29) rfl (.full _ _) (by kernel_rfl) | exact OpH.len (t := 29) rfl slP (by kernel_rfl) | exact OpH.lenNil (t := 29) rfl (by kernel_rfl) | exact OpH.bin rfl rfl (pb_lss_t (by omega)) | exact OpH.bin rfl rfl (pb_lss_f (by omega)) | exact OpH.bin rfl rfl (pb_lss) | exact OpH.indexS (t := 29) (k := 6) rfl slP rfl rfl (by kernel_rfl) (map_at bd) rfl | exact loadC6 (t := 36) rfl (by kernel_rfl) | exact loadB6 (t := 36) rfl rfl (by kernel_rfl) rfl | exact OpH.bin rfl rfl (pb_inc (by omega)) | exact OpH.bin rfl rfl (pb_addN rfl (by omega)) | exact OpH.bin rfl rfl (pb_add (by omega)) | exact OpH.bin rfl rfl (pb_addw)) : p := h
set_option maxRecDepth 100000 in
set_option maxHeartbeats 2000000 in
theorem g_IndexFuncE (xs : List Ent) (g : FuncId) (fn : Func) (c : Code) (caps : List (List Value)) (p : Ent → Bool) (hf : Try.prog.funcs[g]? = some fn) (hname : (fn.name == "runtime.NumGoroutine") = false) (hb : fn.body = some c)
    (hp : ∀ x : Ent, Good Try.prog g (.val (.agg #[.int .u64 x.w.v.x, .int .u64 x.w.v.y, .int .u64 x.w.m.x, .int .u64 x.w.m.y, .int .i64 x.len, .int .i64 x.act]) :: caps.map AV.cptr) (.val (.bool (p x)))) (hl : xs.length ≤ 9223372036854775806) : Good Try.prog 134 [.sl 6 (xs.map encE), .clo g caps] (.val (.int .i64 (firstAt p xs))) := by
  refine Good.of_body (T := [(0, _), (1, _)]) Try.func134 rfl rfl rfl ?_
  intro K0 w0 hno
  repeat' (first | refine CT.seqR ?_ | refine CT.region ?_ | refine CT.seq1 ?_ | refine CT.block ?_ | refine CT.condT rfl ?_ | refine CT.condF rfl ?_ | refine CT.condD rfl (fun _ => ?_) (fun _ => ?_) | refine CT.condN rfl (fun _ => ?_) (fun _ => ?_) | refine CT.cond rfl (fun _ => ?_) (fun _ => ?_) | refine CT.skip ?_ | refine CT.exit ?_ | refine CT.ret ?_ | refine CT.goto ?_ | refine CT.label ?_ | refine LT.nil ?_ | refine HT.nil1 ?_ | (apply LT.cons1; (first | exact arm134_1); decide))
  refine CT.loopX (fun k : Nat => (⟨[(0, .sl 6 (xs.map encE)), (1, .clo g caps), (7, .val (.int .i64 xs.length)), (8, .val (.int .i64 k))], [], []⟩ : St))
    (fun k => k ≤ xs.length ∧ ∀ (i : Nat) (x : Ent), i < k → xs[i]? = some x → p x = false) (fun k => xs.length - k) 0 ?_ ⟨by omega, fun i x hi => by omega⟩ ?_
  · (apply Sub.mk; (focus (repeat (first | exact .nil | refine .other (.keep rfl rfl) ?_ | refine .other (.aref rfl rfl rfl) ?_ | refine .other (.val rfl (by first | rfl | (congr 1; first | omega | assumption | (symm; assumption)) | (simp; omega))) ?_ | refine .other .dead ?_ | refine .other (.sl rfl (.row _ _ _ _) rfl) ?_ | refine .other (.sl rfl (.sl _ _) rfl) ?_ | refine .other (.sl rfl (.full _ _) rfl) ?_ | refine .other (.slNil rfl rfl) ?_ | refine .rowNil rfl rfl rfl ?_ | refine .row rfl (by first | rfl | assumption | (rw [← List.map_append]; first | done | rfl | congr 1)) rfl rfl ?_))); (focus (repeat (first | exact .nil | refine KeepB.same rfl rfl rfl ?_ | refine KeepB.sameA rfl rfl rfl ?_))); (focus (repeat (first | exact .nil | refine KeepA.cons rfl (by first | rfl | assumption | exact List.map_set | exact List.map_set.symm | (rw [← List.map_append]; first | done | rfl | congr 1) | (congr 1; first | omega | assumption)) ?_))))
  rintro k ⟨hk, hc⟩
  by_cases hlt : k < xs.length
  · repeat' (first | refine CT.seqR ?_ | refine CT.region ?_ | refine CT.seq1 ?_ | refine CT.block ?_ | refine CT.condT rfl ?_ | refine CT.condF rfl ?_ | refine CT.condD rfl (fun _ => ?_) (fun _ => ?_) | refine CT.condN rfl (fun _ => ?_) (fun _ => ?_) | refine CT.cond rfl (fun _ => ?_) (fun _ => ?_) | refine CT.skip ?_ | refine CT.exit ?_ | refine CT.ret ?_ | refine CT.goto ?_ | refine CT.label ?_ | refine LT.nil ?_ | refine HT.nil1 ?_ | (apply LT.cons1; (first | exact OpH.callD (v := .bool (p xs[k])) rfl rfl hf hname hb rfl (hp xs[k]) | exact arm134_1); decide))
    · refine ⟨by first | exact .inl rfl | exact .inr rfl, _, (.cons (.tmp 4 (A := .val _) rfl (fun _ h => by cases h)) .nil), ?_, rfl⟩
      rename_i h
      rw [firstAt_hit p xs k hlt hc h]; rfl
    · rename_i h
      refine ⟨k + 1, ⟨by omega, none_step hc hlt h⟩, by omega, ?_⟩
      (apply Sub.mk; (focus (repeat (first | exact .nil | refine .other (.keep rfl rfl) ?_ | refine .other (.aref rfl rfl rfl) ?_ | refine .other (.val rfl (by first | rfl | (congr 1; first | omega | assumption | (symm; assumption)) | (simp; omega))) ?_ | refine .other .dead ?_ | refine .other (.sl rfl (.row _ _ _ _) rfl) ?_ | refine .other (.sl rfl (.sl _ _) rfl) ?_ | refine .other (.sl rfl (.full _ _) rfl) ?_ | refine .other (.slNil rfl rfl) ?_ | refine .rowNil rfl rfl rfl ?_ | refine .row rfl (by first | rfl | assumption | (rw [← List.map_append]; first | done | rfl | congr 1)) rfl rfl ?_))); (focus (repeat (first | exact .nil | refine KeepB.same rfl rfl rfl ?_ | refine KeepB.sameA rfl rfl rfl ?_))); (focus (repeat (first | exact .nil | refine KeepA.cons rfl (by first | rfl | assumption | exact List.map_set | exact List.map_set.symm | (rw [← List.map_append]; first | done | rfl | congr 1) | (congr 1; first | omega | assumption)) ?_))))
  · obtain rfl : k = xs.length := by omega
    repeat' (first | refine CT.seqR ?_ | refine CT.region ?_ | refine CT.seq1 ?_ | refine CT.block ?_ | refine CT.condT rfl ?_ | refine CT.condF rfl ?_ | refine CT.condD rfl (fun _ => ?_) (fun _ => ?_) | refine CT.condN rfl (fun _ => ?_) (fun _ => ?_) | refine CT.cond rfl (fun _ => ?_) (fun _ => ?_) | refine CT.skip ?_ | refine CT.exit ?_ | refine CT.ret ?_ | refine CT.goto ?_ | refine CT.label ?_ | refine LT.nil ?_ | refine HT.nil1 ?_ | (apply LT.cons1; (first | exact arm134_1); decide))
    refine ⟨by first | exact .inl rfl | exact .inr rfl, _, (.cons (.tmp 4 (A := .val _) rfl (fun _ h => by cases h)) .nil), ?_, rfl⟩
    rw [firstAt_none p xs (fun i x hx => hc i x (List.getElem?_eq_some_iff.1 hx).1 hx)]; rfl
theorem arm135_1 {p : Prop} (h : p := by first | exact OpH.assign (v := .val _) rfl | exact OpH.assign (v := .sl _ _) rfl | exact OpH.assign (v := .row _ _ _ _) rfl | exact OpH.assign (v := .full _ _) rfl | exact OpH.assign (v := .ptr _ _) rfl | exact OpH.assign (v := .cptr _) rfl | exact OpH.assign (v := .cloB _ _) rfl | exact OpH.assign (v := .clo _ _) rfl | exact OpH.assign (v := .pr _) rfl | exact OpH.assign (v := .arow _) rfl | exact OpH.assign (v := .aptr _ _ _ _) rfl | exact OpH.assign (v := .asub _ _ _ _) rfl | exact OpH.assign (v := .tup _) rfl | exact loadC6 (t := 36) rfl (by kernel_rfl) | exact loadB6 (t := 36) rfl rfl (by kernel_rfl) rfl | exact OpH.callF Try.func47 rfl rfl rfl (g_Alike _ _ _ _ _ _ _ _ _ _ _ _) rfl) : p := h
set_option maxRecDepth 100000 in
set_option maxHeartbeats 2000000 in
theorem g_at1 (x y : Ent) : Good Try.prog 135 [.val (.agg #[.int .u64 y.w.v.x, .int .u64 y.w.v.y, .int .u64 y.w.m.x, .int .u64 y.w.m.y, .int .i64 y.len, .int .i64 y.act]), .cptr (encE x)] (.val (.bool (eAlike x y))) := by
  refine Good.of_body (T := [(0, _), (1, _)]) Try.func135 rfl rfl rfl ?_
  intro K0 w0 hno
  repeat' (first | refine CT.seqR ?_ | refine CT.region ?_ | refine CT.seq1 ?_ | refine CT.block ?_ | refine CT.condT rfl ?_ | refine CT.condF rfl ?_ | refine CT.condD rfl (fun _ => ?_) (fun _ => ?_) | refine CT.condN rfl (fun _ => ?_) (fun _ => ?_) | refine CT.cond rfl (fun _ => ?_) (fun _ => ?_) | refine CT.skip ?_ | refine CT.exit ?_ | refine CT.ret ?_ | refine CT.goto ?_ | refine CT.label ?_ | refine LT.nil ?_ | refine HT.nil1 ?_ | (refine LT.consT ?_; (first | refine T.box (e := 36) (cs := [.val _, .val _, .val _, .val _, .val _, .val _]) rfl rfl (by decide) rfl rfl ?_)) | (apply LT.cons1; (first | exact arm135_1); decide))
  refine ⟨by first | exact .inl rfl | exact .inr rfl, _, (.cons (.tmp 3 (A := .val _) rfl (fun _ h => by cases h)) .nil), ?_, rfl⟩
  rfl
theorem arm104_1 {p : Prop} (h : p := by first | exact OpH.assign (v := .val _) rfl | exact OpH.assign (v := .sl _ _) rfl | exact OpH.assign (v := .row _ _ _ _) rfl | exact OpH.assign (v := .full _ _) rfl | exact OpH.assign (v := .ptr _ _) rfl | exact OpH.assign (v := .cptr _) rfl | exact OpH.assign (v := .cloB _ _) rfl | exact OpH.assign (v := .clo _ _) rfl | exact OpH.assign (v := .pr _) rfl | exact OpH.assign (v := .arow _) rfl | exact OpH.assign (v := .aptr _ _ _ _) rfl | exact OpH.assign (v := .asub _ _ _ _) rfl | exact OpH.assign (v := .tup _) rfl | exact OpH.move (v := .val _) rfl | exact OpH.move (v := .sl _ _) rfl | exact OpH.move (v := .row _ _ _ _) rfl | exact OpH.move (v := .full _ _) rfl | exact OpH.move (v := .ptr _ _) rfl | exact OpH.move (v := .cptr _) rfl | exact OpH.move (v := .cloB _ _) rfl | exact OpH.move (v := .clo _ _) rfl | exact OpH.move (v := .pr _) rfl | exact OpH.move (v := .arow _) rfl | exact OpH.move (v := .aptr _ _ _ _) rfl | exact OpH.move (v := .asub _ _ _ _) rfl | exact OpH.move (v := .tup _) rfl | exact OpH.mkfn | exact OpH.mkclo1 rfl | exact OpH.mkclo2 rfl rfl) : p := h
set_option maxRecDepth 100000 in
set_option maxHeartbeats 2000000 in
theorem g_at (xs : List Ent) (x : Ent) (hl : xs.length ≤ 65536) : Good Try.prog 104 [.sl 6 (xs.map encE), .val (.agg #[.int .u64 x.w.v.x, .int .u64 x.w.v.y, .int .u64 x.w.m.x, .int .u64 x.w.m.y, .int .i64 x.len, .int .i64 x.act])] (.val (.int .i64 (firstAt (fun y => eAlike x y) xs))) := by
  refine Good.of_body (T := [(0, _), (1, _)]) Try.func104 rfl rfl rfl ?_
  intro K0 w0 hno
  repeat' (first | refine CT.seqR ?_ | refine CT.region ?_ | refine CT.seq1 ?_ | refine CT.block ?_ | refine CT.condT rfl ?_ | refine CT.condF rfl ?_ | refine CT.condD rfl (fun _ => ?_) (fun _ => ?_) | refine CT.condN rfl (fun _ => ?_) (fun _ => ?_) | refine CT.cond rfl (fun _ => ?_) (fun _ => ?_) | refine CT.skip ?_ | refine CT.exit ?_ | refine CT.ret ?_ | refine CT.goto ?_ | refine CT.label ?_ | refine LT.nil ?_ | refine HT.nil1 ?_ | (refine LT.consT ?_; (first | refine T.box (e := 36) (cs := [.val _, .val _, .val _, .val _, .val _, .val _]) rfl rfl (by decide) rfl rfl ?_)) | (apply LT.cons1; (first | exact OpH.callBF Try.func134 rfl rfl rfl (g_IndexFuncE xs 135 _ _ [encE x] (fun y => eAlike x y) Try.func135 rfl rfl (fun y => g_at1 x y) (by omega)) | exact arm104_1); decide))
  refine ⟨by first | exact .inl rfl | exact .inr rfl, _, (.cons (.tmp 4 (A := .val _) rfl (fun _ h => by cases h)) .nil), ?_, rfl⟩
  rfl
end Go.Proofs.Ytnklfbeiagkhiaa

/- Abstract contracts: diff.Once. -/
namespace Go.Proofs.Ytnklfbeiagkhiaa
set_option linter.unusedSimpArgs false
set_option linter.unusedVariables false
open Go Go.RowKit Go.Shelf
def onceTo (xs : List Ent) : Nat → List Ent
  | 0 => []
  | k + 1 => if firstAt (fun y => eAlike (nth xs k) y) (onceTo xs k) < 0 then onceTo xs k ++ [nth xs k] else onceTo xs k
def once (xs : List Ent) : List Ent := onceTo xs xs.length
theorem onceTo_length (xs : List Ent) : ∀ k, (onceTo xs k).length ≤ k
  | 0 => Nat.le_refl _
  | k + 1 => by
    have := onceTo_length xs k
    simp only [onceTo]
    split
    · simp; exact this
    · omega
theorem once_length (xs : List Ent) : (once xs).length ≤ xs.length := onceTo_length xs _
theorem onceTo_add {xs : List Ent} {k : Nat} (hk : k < xs.length) (h : firstAt (fun y => eAlike xs[k] y) (onceTo xs k) < 0) : onceTo xs (k + 1) = onceTo xs k ++ [xs[k]] := by
  simp only [onceTo]
  rw [nth_at xs hk, if_pos h]
theorem onceTo_keep {xs : List Ent} {k : Nat} (hk : k < xs.length) (h : ¬ firstAt (fun y => eAlike xs[k] y) (onceTo xs k) < 0) : onceTo xs (k + 1) = onceTo xs k := by
  simp only [onceTo]
  rw [nth_at xs hk, if_neg h]
attribute [local irreducible] OpH OpT LT CT HT Good
theorem arm103_1 {p : Prop} (h : p := by first | exact OpH.assign (v := .val _) rfl | exact OpH.assign (v := .sl _ _) rfl | exact OpH.assign (v := .row _ _ _ _) rfl | exact OpH.assign (v := .full _ _) rfl | exact OpH.assign (v := .ptr _ _) rfl | exact OpH.assign (v := .cptr _) rfl | exact OpH.assign (v := .cloB _ _) rfl | exact OpH.assign (v := .clo _ _) rfl | exact OpH.assign (v := .pr _) rfl | exact OpH.assign (v := .arow _) rfl | exact OpH.assign (v := .aptr _ _ _ _) rfl | exact OpH.assign (v := .asub _ _ _ _) rfl | exact OpH.assign (v := .tup _) rfl | exact OpH.move (v := .val _) rfl | exact OpH.move (v := .sl _ _) rfl | exact OpH.move (v := .row _ _ _ _) rfl | exact OpH.move (v := .full _ _) rfl | exact OpH.move (v := .ptr _ _) rfl | exact OpH.move (v := .cptr _) rfl | exact OpH.move (v := .cloB _ _) rfl | exact OpH.move (v := .clo _ _) rfl | exact OpH.move (v := .pr _) rfl | exact OpH.move (v := .arow _) rfl | exact OpH.move (v := .aptr _ _ _ _) rfl | exact OpH.move (v := .asub _ _ _ _) rfl | exact OpH.move (v := .tup _) rfl | exact OpH.lenM (t := 29) rfl (.sl _ _) (by kernel_rfl) | exact OpH.lenM (t := 29) rfl (.row _ _ _ _) (by kernel_rfl) | exact OpH.lenM (t := 29) rfl (.full _ _) (by kernel_rfl) | exact OpH.len (t := 29) rfl slP (by kernel_rfl) | exact OpH.lenNil (t := 29) rfl (by kernel_rfl) | exact OpH.bin rfl rfl (pb_lss_t (by omega)) | exact OpH.bin rfl rfl (pb_lss_f (by omega)) | exact OpH.bin rfl rfl (pb_lss) | exact OpH.indexS (t := 29) (k := 6) rfl slP rfl rfl (by kernel_rfl) (map_at bd) rfl | exact loadC6 (t := 36) rfl (by kernel_rfl) | exact loadB6 (t := 36) rfl rfl (by kernel_rfl) rfl | exact OpH.callF Try.func104 rfl rfl rfl ((g_at _ _ (by first | omega | (simp; omega) | simp))) rfl | exact lit_29_1 rfl | exact OpH.bin rfl rfl (pb_inc (by omega)) | exact OpH.bin rfl rfl (pb_addN rfl (by omega)) | exact OpH.bin rfl rfl (pb_add (by omega)) | exact OpH.bin rfl rfl (pb_addw)) : p := h
set_option maxRecDepth 100000 in
set_option maxHeartbeats 2000000 in
theorem g_Once (xs : List Ent) (hl : xs.length ≤ 65536) : Good Try.prog 103 [.sl 6 (xs.map encE)] (.row 3 36 6 ((once xs).map encE)) := by
  refine Good.of_body (T := [(0, _)]) Try.func103 rfl rfl rfl ?_
  intro K0 w0 hno
  repeat' (first | refine CT.seqR ?_ | refine CT.region ?_ | refine CT.seq1 ?_ | refine CT.block ?_ | refine CT.condT rfl ?_ | refine CT.condF rfl ?_ | refine CT.condD rfl (fun _ => ?_) (fun _ => ?_) | refine CT.condN rfl (fun _ => ?_) (fun _ => ?_) | refine CT.cond rfl (fun _ => ?_) (fun _ => ?_) | refine CT.skip ?_ | refine CT.exit ?_ | refine CT.ret ?_ | refine CT.goto ?_ | refine CT.label ?_ | refine LT.nil ?_ | refine HT.nil1 ?_ | (refine LT.consT ?_; (first | refine T.alloc (e := 36) (z := .agg #[.int .u64 0, .int .u64 0, .int .u64 0, .int .u64 0, .int .i64 0, .int .i64 0]) (cs := [.val (.int .u64 0), .val (.int .u64 0), .val (.int .u64 0), .val (.int .u64 0), .val (.int .i64 0), .val (.int .i64 0)]) (by kernel_rfl) rfl (by decide) rfl rfl ?_ | refine T.store (t := 36) rfl rfl rfl (by kernel_rfl) (by kernel_rfl) (Nat.le_of_ble_eq_true (by kernel_rfl)) rfl rfl ?_ | refine T.appNil (t := 29) (e := 36) (k := 6) (bytes := 48) rfl rfl srP (by kernel_rfl) szP (by decide) rfl ?_ | refine T.app (t := 29) (e := 36) (k := 6) (bytes := 48) rfl rfl srP (by kernel_rfl) szP (by decide) rfl rfl ?_)) | (apply LT.cons1; (first | exact arm103_1); decide))
  refine CT.loopX (fun k : Nat => (⟨[(0, .sl 6 (xs.map encE)), (3, .row 3 36 6 ((onceTo xs k).map encE)), (6, .sl 6 (xs.map encE)), (7, .val (.int .i64 xs.length)), (8, .val (.int .i64 k))], [], []⟩ : St))
    (fun k => k ≤ xs.length) (fun k => xs.length - k) 0 ?_ (by omega) ?_
  · (apply Sub.mk; (focus (repeat (first | exact .nil | refine .other (.keep rfl rfl) ?_ | refine .other (.aref rfl rfl rfl) ?_ | refine .other (.val rfl (by first | rfl | (congr 1; first | omega | assumption | (symm; assumption)) | (simp; omega))) ?_ | refine .other .dead ?_ | refine .other (.sl rfl (.row _ _ _ _) rfl) ?_ | refine .other (.sl rfl (.sl _ _) rfl) ?_ | refine .other (.sl rfl (.full _ _) rfl) ?_ | refine .other (.slNil rfl rfl) ?_ | refine .rowNil rfl rfl rfl ?_ | refine .row rfl (by first | rfl | assumption | (rw [← List.map_append]; first | done | rfl | congr 1)) rfl rfl ?_))); (focus (repeat (first | exact .nil | refine KeepB.same rfl rfl rfl ?_ | refine KeepB.sameA rfl rfl rfl ?_))); (focus (repeat (first | exact .nil | refine KeepA.cons rfl (by first | rfl | assumption | exact List.map_set | exact List.map_set.symm | (rw [← List.map_append]; first | done | rfl | congr 1) | (congr 1; first | omega | assumption)) ?_))))
  rintro k hk
  by_cases hlt : k < xs.length
  · have hlen := onceTo_length xs k
    repeat' (first | refine CT.seqR ?_ | refine CT.region ?_ | refine CT.seq1 ?_ | refine CT.block ?_ | refine CT.condT rfl ?_ | refine CT.condF rfl ?_ | refine CT.condD rfl (fun _ => ?_) (fun _ => ?_) | refine CT.condN rfl (fun _ => ?_) (fun _ => ?_) | refine CT.cond rfl (fun _ => ?_) (fun _ => ?_) | refine CT.skip ?_ | refine CT.exit ?_ | refine CT.ret ?_ | refine CT.goto ?_ | refine CT.label ?_ | refine LT.nil ?_ | refine HT.nil1 ?_ | (refine LT.consT ?_; (first | refine T.alloc (e := 36) (z := .agg #[.int .u64 0, .int .u64 0, .int .u64 0, .int .u64 0, .int .i64 0, .int .i64 0]) (cs := [.val (.int .u64 0), .val (.int .u64 0), .val (.int .u64 0), .val (.int .u64 0), .val (.int .i64 0), .val (.int .i64 0)]) (by kernel_rfl) rfl (by decide) rfl rfl ?_ | refine T.store (t := 36) rfl rfl rfl (by kernel_rfl) (by kernel_rfl) (Nat.le_of_ble_eq_true (by kernel_rfl)) rfl rfl ?_ | refine T.appNil (t := 29) (e := 36) (k := 6) (bytes := 48) rfl rfl srP (by kernel_rfl) szP (by decide) rfl ?_ | refine T.app (t := 29) (e := 36) (k := 6) (bytes := 48) rfl rfl srP (by kernel_rfl) szP (by decide) rfl rfl ?_)) | (apply LT.cons1; (first | exact OpH.callF Try.func104 rfl rfl rfl (g_at (onceTo xs k) xs[k] (by omega)) rfl | exact arm103_1); decide))
    · rename_i h
      refine ⟨k + 1, by omega, by omega, ?_⟩
      have hst := onceTo_add hlt h
      rw [hst]
      (apply Sub.mk; (focus (repeat (first | exact .nil | refine .other (.keep rfl rfl) ?_ | refine .other (.aref rfl rfl rfl) ?_ | refine .other (.val rfl (by first | rfl | (congr 1; first | omega | assumption | (symm; assumption)) | (simp; omega))) ?_ | refine .other .dead ?_ | refine .other (.sl rfl (.row _ _ _ _) rfl) ?_ | refine .other (.sl rfl (.sl _ _) rfl) ?_ | refine .other (.sl rfl (.full _ _) rfl) ?_ | refine .other (.slNil rfl rfl) ?_ | refine .rowNil rfl rfl rfl ?_ | refine .row rfl (by first | rfl | assumption | (rw [← List.map_append]; first | done | rfl | congr 1)) rfl rfl ?_))); (focus (repeat (first | exact .nil | refine KeepB.same rfl rfl rfl ?_ | refine KeepB.sameA rfl rfl rfl ?_))); (focus (repeat (first | exact .nil | refine KeepA.cons rfl (by first | rfl | assumption | exact List.map_set | exact List.map_set.symm | (rw [← List.map_append]; first | done | rfl | congr 1) | (congr 1; first | omega | assumption)) ?_))))
    · rename_i h
      refine ⟨k + 1, by omega, by omega, ?_⟩
      have hst := onceTo_keep hlt h
      rw [hst]
      (apply Sub.mk; (focus (repeat (first | exact .nil | refine .other (.keep rfl rfl) ?_ | refine .other (.aref rfl rfl rfl) ?_ | refine .other (.val rfl (by first | rfl | (congr 1; first | omega | assumption | (symm; assumption)) | (simp; omega))) ?_ | refine .other .dead ?_ | refine .other (.sl rfl (.row _ _ _ _) rfl) ?_ | refine .other (.sl rfl (.sl _ _) rfl) ?_ | refine .other (.sl rfl (.full _ _) rfl) ?_ | refine .other (.slNil rfl rfl) ?_ | refine .rowNil rfl rfl rfl ?_ | refine .row rfl (by first | rfl | assumption | (rw [← List.map_append]; first | done | rfl | congr 1)) rfl rfl ?_))); (focus (repeat (first | exact .nil | refine KeepB.same rfl rfl rfl ?_ | refine KeepB.sameA rfl rfl rfl ?_))); (focus (repeat (first | exact .nil | refine KeepA.cons rfl (by first | rfl | assumption | exact List.map_set | exact List.map_set.symm | (rw [← List.map_append]; first | done | rfl | congr 1) | (congr 1; first | omega | assumption)) ?_))))
  · obtain rfl : k = xs.length := by omega
    repeat' (first | refine CT.seqR ?_ | refine CT.region ?_ | refine CT.seq1 ?_ | refine CT.block ?_ | refine CT.condT rfl ?_ | refine CT.condF rfl ?_ | refine CT.condD rfl (fun _ => ?_) (fun _ => ?_) | refine CT.condN rfl (fun _ => ?_) (fun _ => ?_) | refine CT.cond rfl (fun _ => ?_) (fun _ => ?_) | refine CT.skip ?_ | refine CT.exit ?_ | refine CT.ret ?_ | refine CT.goto ?_ | refine CT.label ?_ | refine LT.nil ?_ | refine HT.nil1 ?_ | (refine LT.consT ?_; (first | refine T.alloc (e := 36) (z := .agg #[.int .u64 0, .int .u64 0, .int .u64 0, .int .u64 0, .int .i64 0, .int .i64 0]) (cs := [.val (.int .u64 0), .val (.int .u64 0), .val (.int .u64 0), .val (.int .u64 0), .val (.int .i64 0), .val (.int .i64 0)]) (by kernel_rfl) rfl (by decide) rfl rfl ?_ | refine T.store (t := 36) rfl rfl rfl (by kernel_rfl) (by kernel_rfl) (Nat.le_of_ble_eq_true (by kernel_rfl)) rfl rfl ?_ | refine T.appNil (t := 29) (e := 36) (k := 6) (bytes := 48) rfl rfl srP (by kernel_rfl) szP (by decide) rfl ?_ | refine T.app (t := 29) (e := 36) (k := 6) (bytes := 48) rfl rfl srP (by kernel_rfl) szP (by decide) rfl rfl ?_)) | (apply LT.cons1; (first | exact arm103_1); decide))
    refine ⟨by first | exact .inl rfl | exact .inr rfl, _, (.cons (.tmp 2 (A := .row _ _ _ _) rfl (fun _ h => by cases h)) .nil), ?_, rfl⟩
    rfl
end Go.Proofs.Ytnklfbeiagkhiaa

/- Abstract contracts: the reference's Alike, find, Once. -/
namespace Go.Proofs.Ytnklfbeiagkhiaa
set_option linter.unusedSimpArgs false
set_option linter.unusedVariables false
open Go Go.RowKit Go.Shelf
theorem alike_comm (x y : Ent) : eAlike x y = eAlike y x := by
  unfold eAlike same
  rw [Bool.eq_iff_iff]
  simp only [Bool.and_eq_true, decide_eq_true_eq, beq_iff_eq]
  constructor <;> rintro ⟨h1, h2⟩ <;> exact ⟨h1.symm, h2.symm⟩
theorem firstAt_neg {α : Type} (p : α → Bool) (xs : List α) : firstAt p xs < 0 ↔ ∀ x ∈ xs, p x = false := by
  induction xs with
  | nil => simp [firstAt]
  | cons x xs ih =>
    have hge := firstAt_ge p xs
    simp only [firstAt, List.mem_cons, forall_eq_or_imp]
    by_cases hp : p x = true
    · simp [hp]
    · have hp' : p x = false := by simpa using hp
      simp only [hp', Bool.false_eq_true, if_false, true_and, ← ih]
      split <;> omega
theorem alike_trans {x y z : Ent} (h1 : eAlike x y = true) (h2 : eAlike y z = true) : eAlike x z = true := by
  unfold eAlike same at *
  simp only [Bool.and_eq_true, decide_eq_true_eq, beq_iff_eq] at *
  exact ⟨h1.1.trans h2.1, h1.2.trans h2.2⟩
theorem alike_refl (x : Ent) : eAlike x x = true := by simp [eAlike, same]
theorem onceTo_take (xs : List Ent) : ∀ k, k ≤ xs.length → (∀ y ∈ onceTo xs k, y ∈ xs.take k) ∧ ∀ y ∈ xs.take k, ∃ z ∈ onceTo xs k, eAlike y z = true
  | 0, _ => ⟨fun y h => by simp [onceTo] at h, fun y h => by simp at h⟩
  | k + 1, hk => by
    obtain ⟨h1, h2⟩ := onceTo_take xs k (by omega)
    have hlt : k < xs.length := by omega
    have ht : xs.take (k + 1) = xs.take k ++ [xs[k]] := List.take_succ_eq_append_getElem hlt
    by_cases hf : firstAt (fun y => eAlike xs[k] y) (onceTo xs k) < 0
    · rw [onceTo_add hlt hf, ht]
      refine ⟨fun y hy => ?_, fun y hy => ?_⟩
      · rcases List.mem_append.1 hy with hy | hy
        · exact List.mem_append_left _ (h1 y hy)
        · exact List.mem_append_right _ hy
      · rcases List.mem_append.1 hy with hy | hy
        · obtain ⟨z, hz, ha⟩ := h2 y hy
          exact ⟨z, List.mem_append_left _ hz, ha⟩
        · simp at hy; subst hy
          exact ⟨xs[k], by simp, alike_refl _⟩
    · rw [onceTo_keep hlt hf, ht]
      refine ⟨fun y hy => List.mem_append_left _ (h1 y hy), fun y hy => ?_⟩
      rcases List.mem_append.1 hy with hy | hy
      · exact h2 y hy
      · simp at hy; subst hy
        rw [firstAt_neg] at hf
        exact Classical.byContradiction fun hne => hf fun z hz => by
          cases hq : eAlike xs[k] z with
          | false => rfl
          | true => exact absurd ⟨z, hz, hq⟩ hne
attribute [local irreducible] OpH OpT LT CT HT Good
end Go.Proofs.Ytnklfbeiagkhiaa

/- Abstract contracts: slices.DeleteFunc of rows that may be written in place. -/
namespace Go.Proofs.Ytnklfbeiagkhiaa
set_option linter.unusedSimpArgs false
set_option linter.unusedVariables false
open Go Go.RowKit Go.Shelf
attribute [local irreducible] OpH OpT LT CT HT Good GoodO
/-- What stands of a row when its first k elements have been looked at. -/
theorem kept_step {p : Ent → Bool} {xs : List Ent} {k : Nat} (hk : k < xs.length) : (xs.take (k + 1)).filter (fun x => !p x) = (xs.take k).filter (fun x => !p x) ++ (if p xs[k] = true then [] else [xs[k]]) := by
  rw [List.take_succ_eq_append_getElem hk, List.filter_append]
  congr 1
  cases h : p xs[k] <;> simp [h]
theorem firstAt_found {p : Ent → Bool} : ∀ {xs : List Ent} {k : Nat}, firstAt p xs = (k : Int) → ∃ hk : k < xs.length, p xs[k] = true ∧ ∀ (i : Nat) (hi : i < k) (hi' : i < xs.length), p xs[i] = false
  | [], k, h => by simp [firstAt] at h
  | x :: xs, k, h => by
    have hge := firstAt_ge p xs
    cases hp : p x with
    | true =>
      simp [firstAt, hp] at h
      obtain rfl : k = 0 := by omega
      exact ⟨by simp, by simpa using hp, fun i hi => by omega⟩
    | false =>
      simp only [firstAt, hp, Bool.false_eq_true, if_false] at h
      split at h
      · omega
      · obtain ⟨k', rfl⟩ : ∃ k', k = k' + 1 := ⟨k - 1, by omega⟩
        obtain ⟨h1, h2, h3⟩ := firstAt_found (p := p) (xs := xs) (k := k') (by omega)
        refine ⟨by simp; omega, by simpa using h2, fun i hi hi' => ?_⟩
        cases i with
        | zero => simpa using hp
        | succ i => simpa using h3 i (by omega) (by simpa using hi')
theorem first_split {p : Ent → Bool} {xs : List Ent} (h : ¬ firstAt p xs = -1) : ∃ k : Nat, firstAt p xs = (k : Int) ∧ ∃ hk : k < xs.length, p xs[k] = true ∧ (xs.take k).filter (fun x => !p x) = xs.take k := by
  have hge := firstAt_ge p xs
  obtain ⟨k, hk⟩ : ∃ k : Nat, firstAt p xs = (k : Int) := ⟨(firstAt p xs).toNat, by omega⟩
  obtain ⟨hl, h1, h2⟩ := firstAt_found (p := p) (xs := xs) hk
  refine ⟨k, hk, hl, h1, List.filter_eq_self.2 fun x hx => ?_⟩
  obtain ⟨i, hi, rfl⟩ := List.mem_iff_getElem.1 hx
  simp only [List.length_take] at hi
  rw [List.getElem_take, h2 i (by omega) (by omega)]; rfl
theorem arm108_1 {p : Prop} (h : p := by first | exact OpH.assign (v := .val _) rfl | exact OpH.assign (v := .sl _ _) rfl | exact OpH.assign (v := .row _ _ _ _) rfl | exact OpH.assign (v := .full _ _) rfl | exact OpH.assign (v := .ptr _ _) rfl | exact OpH.assign (v := .cptr _) rfl | exact OpH.assign (v := .cloB _ _) rfl | exact OpH.assign (v := .clo _ _) rfl | exact OpH.assign (v := .pr _) rfl | exact OpH.assign (v := .arow _) rfl | exact OpH.assign (v := .aptr _ _ _ _) rfl | exact OpH.assign (v := .asub _ _ _ _) rfl | exact OpH.assign (v := .tup _) rfl | exact OpH.move (v := .val _) rfl | exact OpH.move (v := .sl _ _) rfl | exact OpH.move (v := .row _ _ _ _) rfl | exact OpH.move (v := .full _ _) rfl | exact OpH.move (v := .ptr _ _) rfl | exact OpH.move (v := .cptr _) rfl | exact OpH.move (v := .cloB _ _) rfl | exact OpH.move (v := .clo _ _) rfl | exact OpH.move (v := .pr _) rfl | exact OpH.move (v := .arow _) rfl | exact OpH.move (v := .aptr _ _ _ _) rfl | exact OpH.move (v := .asub _ _ _ _) rfl | exact OpH.move (v := .tup _) rfl | exact OpH.bin rfl rfl (pb_eql_t (by first | omega | assumption)) | exact OpH.bin rfl rfl (pb_eql_f (by first | omega | assumption)) | exact OpH.bin rfl rfl (pb_eql) | exact OpH.bin rfl rfl (pb_inc (by omega)) | exact OpH.bin rfl rfl (pb_addN rfl (by omega)) | exact OpH.bin rfl rfl (pb_add (by omega)) | exact OpH.bin rfl rfl (pb_addw) | exact OpH.lenM (t := 29) rfl (.sl _ _) (by kernel_rfl) | exact OpH.lenM (t := 29) rfl (.row _ _ _ _) (by kernel_rfl) | exact OpH.lenM (t := 29) rfl (.full _ _) (by kernel_rfl) | exact OpH.len (t := 29) rfl slP (by kernel_rfl) | exact OpH.lenNil (t := 29) rfl (by kernel_rfl) | exact OpH.lenA (t := 29) rfl rfl (by kernel_rfl) (List.length_map _) | exact OpH.lenA (t := 29) rfl rfl (by kernel_rfl) rfl | exact OpH.bin rfl rfl (pb_lss_t (by omega)) | exact OpH.bin rfl rfl (pb_lss_f (by omega)) | exact OpH.bin rfl rfl (pb_lss) | exact OpH.indexS (t := 29) (k := 6) rfl slP rfl rfl (by kernel_rfl) (map_at bd) rfl | exact OpH.indexA (t := 29) (k := 6) rfl rfl rfl rfl (by kernel_rfl) bd | exact loadC6 (t := 36) rfl (by kernel_rfl) | exact loadB6 (t := 36) rfl rfl (by kernel_rfl) rfl | exact OpH.loadA (t := 36) (vs := [_, _, _, _, _, _]) rfl rfl rfl (map_at bd) (by kernel_rfl) rfl rfl | exact OpH.un rfl un_not | exact OpH.un rfl (un_neg (by omega)) | exact OpH.subA (t := 29) (k := 6) rfl rfl rfl rfl rfl (by kernel_rfl) bd rfl | exact OpH.subLo (t := 29) (k := 6) rfl slP (by kernel_rfl) rfl rfl bd | exact OpH.subHi (t := 29) (k := 6) rfl slP (by kernel_rfl) rfl rfl bd) : p := h
set_option maxRecDepth 100000 in
set_option maxHeartbeats 2000000 in
theorem go_DeleteFuncE (xs : List Ent) (g : FuncId) (fn : Func) (c : Code) (caps : List (List Value)) (p : Ent → Bool) (hf : Try.prog.funcs[g]? = some fn) (hname : (fn.name == "runtime.NumGoroutine") = false) (hb : fn.body = some c)
    (hp : ∀ x : Ent, Good Try.prog g (.val (.agg #[.int .u64 x.w.v.x, .int .u64 x.w.v.y, .int .u64 x.w.m.x, .int .u64 x.w.m.y, .int .i64 x.len, .int .i64 x.act]) :: caps.map AV.cptr) (.val (.bool (p x)))) (hl : xs.length ≤ 65536) :
    GoodO Try.prog 108 [.arow 1000, .clo g caps] [] [(1000, ⟨36, 6, xs.map encE⟩)] (.arow 1000) [] [(1000, ⟨36, 6, (xs.filter fun x => !p x).map encE⟩)] := by
  refine GoodO.of_body (T := [(0, _), (1, _)]) Try.func108 rfl rfl rfl rfl rfl ?_
  intro K0 w0 hfix
  have hI := g_IndexFuncE xs g fn c caps p hf hname hb hp (by omega)
  by_cases h0 : firstAt p xs = -1
  · repeat' (first | refine CT.seqR ?_ | refine CT.region ?_ | refine CT.seq1 ?_ | refine CT.block ?_ | refine CT.condT rfl ?_ | refine CT.condF rfl ?_ | refine CT.condD rfl (fun _ => ?_) (fun _ => ?_) | refine CT.condN rfl (fun _ => ?_) (fun _ => ?_) | refine CT.cond rfl (fun _ => ?_) (fun _ => ?_) | refine CT.skip ?_ | refine CT.exit ?_ | refine CT.ret ?_ | refine CT.goto ?_ | refine CT.label ?_ | refine LT.nil ?_ | refine HT.nil1 ?_ | (refine LT.consT ?_; (first | refine T.alloc (e := 36) (z := .agg #[.int .u64 0, .int .u64 0, .int .u64 0, .int .u64 0, .int .i64 0, .int .i64 0]) (cs := [.val (.int .u64 0), .val (.int .u64 0), .val (.int .u64 0), .val (.int .u64 0), .val (.int .i64 0), .val (.int .i64 0)]) (by kernel_rfl) rfl (by decide) rfl rfl ?_ | refine T.storeA (t := 36) rfl rfl rfl rfl (map_at bd) (by kernel_rfl) (by kernel_rfl) (Nat.le_of_ble_eq_true (by kernel_rfl)) rfl rfl rfl ?_ | refine T.store (t := 36) rfl rfl rfl (by kernel_rfl) (by kernel_rfl) (Nat.le_of_ble_eq_true (by kernel_rfl)) rfl rfl ?_ | refine T.clearA (t := 29) (e := 36) (k := 6) (bytes := 48) (zc := [.int .u64 0, .int .u64 0, .int .u64 0, .int .u64 0, .int .i64 0, .int .i64 0]) rfl rfl bd (by kernel_rfl) (by kernel_rfl) rfl rfl rfl ?_ | refine T.cutA (t := 29) (k := 6) rfl rfl rfl rfl (by kernel_rfl) bd (by decide) rfl rfl rfl ?_)) | (apply LT.cons1; (first | exact OpH.callL Try.func134 rfl rfl rfl hI | exact arm108_1); decide))
    refine ⟨by first | exact .inl rfl | exact .inr rfl, ⟨_, (.cons (.tmp 4 (A := .arow _) rfl (fun _ h => by cases h)) .nil), ?_, rfl⟩, rfl, ?_⟩
    · rfl
    · have e1 : xs.filter (fun x => !p x) = xs := List.filter_eq_self.2 fun x hx => by
        have := (firstAt_neg p xs).1 (by omega) x hx
        rw [this]; rfl
      rw [e1]; rfl
  · obtain ⟨k0, hk0, hlt0, hp0, hpre⟩ := first_split h0
    rw [hk0] at hI
    repeat' (first | refine CT.seqR ?_ | refine CT.region ?_ | refine CT.seq1 ?_ | refine CT.block ?_ | refine CT.condT rfl ?_ | refine CT.condF rfl ?_ | refine CT.condD rfl (fun _ => ?_) (fun _ => ?_) | refine CT.condN rfl (fun _ => ?_) (fun _ => ?_) | refine CT.cond rfl (fun _ => ?_) (fun _ => ?_) | refine CT.skip ?_ | refine CT.exit ?_ | refine CT.ret ?_ | refine CT.goto ?_ | refine CT.label ?_ | refine LT.nil ?_ | refine HT.nil1 ?_ | (refine LT.consT ?_; (first | refine T.alloc (e := 36) (z := .agg #[.int .u64 0, .int .u64 0, .int .u64 0, .int .u64 0, .int .i64 0, .int .i64 0]) (cs := [.val (.int .u64 0), .val (.int .u64 0), .val (.int .u64 0), .val (.int .u64 0), .val (.int .i64 0), .val (.int .i64 0)]) (by kernel_rfl) rfl (by decide) rfl rfl ?_ | refine T.storeA (t := 36) rfl rfl rfl rfl (map_at bd) (by kernel_rfl) (by kernel_rfl) (Nat.le_of_ble_eq_true (by kernel_rfl)) rfl rfl rfl ?_ | refine T.store (t := 36) rfl rfl rfl (by kernel_rfl) (by kernel_rfl) (Nat.le_of_ble_eq_true (by kernel_rfl)) rfl rfl ?_ | refine T.clearA (t := 29) (e := 36) (k := 6) (bytes := 48) (zc := [.int .u64 0, .int .u64 0, .int .u64 0, .int .u64 0, .int .i64 0, .int .i64 0]) rfl rfl bd (by kernel_rfl) (by kernel_rfl) rfl rfl rfl ?_ | refine T.cutA (t := 29) (k := 6) rfl rfl rfl rfl (by kernel_rfl) bd (by decide) rfl rfl rfl ?_)) | (apply LT.cons1; (first | exact OpH.callL Try.func134 rfl rfl rfl hI | exact arm108_1); decide))
    have hk1 : ((xs.take (k0 + 1)).filter (fun x => !p x)).length = k0 := by
      rw [kept_step hlt0, if_pos hp0, hpre]; simp; omega
    refine CT.loopX (fun q : Nat × List Ent => (⟨[(0, .arow 1000), (1, .clo g caps), (5, .val (.int .i64 ((((xs.take q.1).filter (fun x => !p x)).length : Nat) : Int))), (6, .val (.int .i64 q.1))], [], [(1000, ⟨36, 6, q.2.map encE⟩)]⟩ : St))
      (fun q => q.1 ≤ xs.length ∧ q.2.length = xs.length ∧ ((xs.take q.1).filter (fun x => !p x)).length < q.1 ∧ q.2.take ((xs.take q.1).filter (fun x => !p x)).length = (xs.take q.1).filter (fun x => !p x) ∧ q.2.drop q.1 = xs.drop q.1) (fun q => xs.length - q.1) (k0 + 1, xs) ?_ ?_ ?_
    · (apply Sub.mk; (focus (repeat (first | exact .nil | refine .other (.keep rfl rfl) ?_ | refine .other (.aref rfl rfl rfl) ?_ | refine .other (.val rfl (by first | rfl | (congr 1; first | omega | assumption | (symm; assumption)) | (simp; omega))) ?_ | refine .other .dead ?_ | refine .other (.sl rfl (.row _ _ _ _) rfl) ?_ | refine .other (.sl rfl (.sl _ _) rfl) ?_ | refine .other (.sl rfl (.full _ _) rfl) ?_ | refine .other (.slNil rfl rfl) ?_ | refine .rowNil rfl rfl rfl ?_ | refine .row rfl (by first | rfl | assumption | (rw [← List.map_append]; first | done | rfl | congr 1)) rfl rfl ?_))); (focus (repeat (first | exact .nil | refine KeepB.same rfl rfl rfl ?_ | refine KeepB.sameA rfl rfl rfl ?_))); (focus (repeat (first | exact .nil | refine KeepA.cons rfl (by first | rfl | assumption | exact List.map_set | exact List.map_set.symm | (rw [← List.map_append]; first | done | rfl | congr 1) | (congr 1; first | omega | assumption)) ?_))))
    · refine ⟨hlt0, rfl, by simp only [hk1]; omega, ?_, rfl⟩
      simp only [hk1]
      rw [kept_step hlt0, if_pos hp0, hpre, List.append_nil]
    rintro ⟨j, ys⟩ ⟨hj, hyl, hkj, htk, hdr⟩
    dsimp only at hj hyl hkj htk hdr ⊢
    by_cases hlt : j < xs.length
    · have hlty : j < ys.length := by omega
      have hyx : ys[j] = xs[j] := by
        have e1 : (ys.drop j)[0]? = (xs.drop j)[0]? := by rw [hdr]
        simpa [hlt, hlty] using e1
      have hst := kept_step (p := p) hlt
      obtain ⟨m, hm⟩ : ∃ m, ((xs.take j).filter (fun x => !p x)).length = m := ⟨_, rfl⟩
      rw [hm] at hkj htk ⊢
      cases hpj : p ys[j] with
      | true =>
        repeat' (first | refine CT.seqR ?_ | refine CT.region ?_ | refine CT.seq1 ?_ | refine CT.block ?_ | refine CT.condT rfl ?_ | refine CT.condF rfl ?_ | refine CT.condD rfl (fun _ => ?_) (fun _ => ?_) | refine CT.condN rfl (fun _ => ?_) (fun _ => ?_) | refine CT.cond rfl (fun _ => ?_) (fun _ => ?_) | refine CT.skip ?_ | refine CT.exit ?_ | refine CT.ret ?_ | refine CT.goto ?_ | refine CT.label ?_ | refine LT.nil ?_ | refine HT.nil1 ?_ | (refine LT.consT ?_; (first | refine T.alloc (e := 36) (z := .agg #[.int .u64 0, .int .u64 0, .int .u64 0, .int .u64 0, .int .i64 0, .int .i64 0]) (cs := [.val (.int .u64 0), .val (.int .u64 0), .val (.int .u64 0), .val (.int .u64 0), .val (.int .i64 0), .val (.int .i64 0)]) (by kernel_rfl) rfl (by decide) rfl rfl ?_ | refine T.storeA (t := 36) rfl rfl rfl rfl (map_at bd) (by kernel_rfl) (by kernel_rfl) (Nat.le_of_ble_eq_true (by kernel_rfl)) rfl rfl rfl ?_ | refine T.store (t := 36) rfl rfl rfl (by kernel_rfl) (by kernel_rfl) (Nat.le_of_ble_eq_true (by kernel_rfl)) rfl rfl ?_ | refine T.clearA (t := 29) (e := 36) (k := 6) (bytes := 48) (zc := [.int .u64 0, .int .u64 0, .int .u64 0, .int .u64 0, .int .i64 0, .int .i64 0]) rfl rfl bd (by kernel_rfl) (by kernel_rfl) rfl rfl rfl ?_ | refine T.cutA (t := 29) (k := 6) rfl rfl rfl rfl (by kernel_rfl) bd (by decide) rfl rfl rfl ?_)) | (apply LT.cons1; (first | exact OpH.callD (v := .bool true) rfl rfl hf hname hb rfl (hpj ▸ hp ys[j]) | exact arm108_1); decide))
        rw [if_pos (by rw [← hyx]; exact hpj), List.append_nil] at hst
        refine ⟨(j + 1, ys), ⟨hlt, hyl, ?_, ?_, ?_⟩, by simp only; omega, ?_⟩
        · simp only [hst, hm]; omega
        · simp only [hst, hm]; exact htk
        · simp only; rw [← List.drop_drop, ← List.drop_drop, hdr]
        · simp only [hst, hm]
          (apply Sub.mk; (focus (repeat (first | exact .nil | refine .other (.keep rfl rfl) ?_ | refine .other (.aref rfl rfl rfl) ?_ | refine .other (.val rfl (by first | rfl | (congr 1; first | omega | assumption | (symm; assumption)) | (simp; omega))) ?_ | refine .other .dead ?_ | refine .other (.sl rfl (.row _ _ _ _) rfl) ?_ | refine .other (.sl rfl (.sl _ _) rfl) ?_ | refine .other (.sl rfl (.full _ _) rfl) ?_ | refine .other (.slNil rfl rfl) ?_ | refine .rowNil rfl rfl rfl ?_ | refine .row rfl (by first | rfl | assumption | (rw [← List.map_append]; first | done | rfl | congr 1)) rfl rfl ?_))); (focus (repeat (first | exact .nil | refine KeepB.same rfl rfl rfl ?_ | refine KeepB.sameA rfl rfl rfl ?_))); (focus (repeat (first | exact .nil | refine KeepA.cons rfl (by first | rfl | assumption | exact List.map_set | exact List.map_set.symm | (rw [← List.map_append]; first | done | rfl | congr 1) | (congr 1; first | omega | assumption)) ?_))))
      | false =>
        repeat' (first | refine CT.seqR ?_ | refine CT.region ?_ | refine CT.seq1 ?_ | refine CT.block ?_ | refine CT.condT rfl ?_ | refine CT.condF rfl ?_ | refine CT.condD rfl (fun _ => ?_) (fun _ => ?_) | refine CT.condN rfl (fun _ => ?_) (fun _ => ?_) | refine CT.cond rfl (fun _ => ?_) (fun _ => ?_) | refine CT.skip ?_ | refine CT.exit ?_ | refine CT.ret ?_ | refine CT.goto ?_ | refine CT.label ?_ | refine LT.nil ?_ | refine HT.nil1 ?_ | (refine LT.consT ?_; (first | refine T.alloc (e := 36) (z := .agg #[.int .u64 0, .int .u64 0, .int .u64 0, .int .u64 0, .int .i64 0, .int .i64 0]) (cs := [.val (.int .u64 0), .val (.int .u64 0), .val (.int .u64 0), .val (.int .u64 0), .val (.int .i64 0), .val (.int .i64 0)]) (by kernel_rfl) rfl (by decide) rfl rfl ?_ | refine T.storeA (t := 36) rfl rfl rfl rfl (map_at bd) (by kernel_rfl) (by kernel_rfl) (Nat.le_of_ble_eq_true (by kernel_rfl)) rfl rfl rfl ?_ | refine T.store (t := 36) rfl rfl rfl (by kernel_rfl) (by kernel_rfl) (Nat.le_of_ble_eq_true (by kernel_rfl)) rfl rfl ?_ | refine T.clearA (t := 29) (e := 36) (k := 6) (bytes := 48) (zc := [.int .u64 0, .int .u64 0, .int .u64 0, .int .u64 0, .int .i64 0, .int .i64 0]) rfl rfl bd (by kernel_rfl) (by kernel_rfl) rfl rfl rfl ?_ | refine T.cutA (t := 29) (k := 6) rfl rfl rfl rfl (by kernel_rfl) bd (by decide) rfl rfl rfl ?_)) | (apply LT.cons1; (first | exact OpH.callD (v := .bool false) rfl rfl hf hname hb rfl (hpj ▸ hp ys[j]) | exact arm108_1); decide))
        rw [if_neg (by rw [← hyx, hpj]; simp)] at hst
        have hm1 : ((xs.take (j + 1)).filter (fun x => !p x)).length = m + 1 := by rw [hst, List.length_append, hm]; rfl
        refine ⟨(j + 1, ys.set m ys[j]), ⟨hlt, by simpa using hyl, ?_, ?_, ?_⟩, by simp only; omega, ?_⟩
        · simp only [hm1]; omega
        · simp only [hm1]
          rw [hst, ← htk, hyx, List.take_succ_eq_append_getElem (by simp; omega), List.take_set_of_le (Nat.le_refl m)]
          simp
        · simp only
          rw [List.drop_set_of_lt (by omega), ← List.drop_drop, ← List.drop_drop, hdr]
        · simp only [hm1]
          (apply Sub.mk; (focus (repeat (first | exact .nil | refine .other (.keep rfl rfl) ?_ | refine .other (.aref rfl rfl rfl) ?_ | refine .other (.val rfl (by first | rfl | (congr 1; first | omega | assumption | (symm; assumption)) | (simp; omega))) ?_ | refine .other .dead ?_ | refine .other (.sl rfl (.row _ _ _ _) rfl) ?_ | refine .other (.sl rfl (.sl _ _) rfl) ?_ | refine .other (.sl rfl (.full _ _) rfl) ?_ | refine .other (.slNil rfl rfl) ?_ | refine .rowNil rfl rfl rfl ?_ | refine .row rfl (by first | rfl | assumption | (rw [← List.map_append]; first | done | rfl | congr 1)) rfl rfl ?_))); (focus (repeat (first | exact .nil | refine KeepB.same rfl rfl rfl ?_ | refine KeepB.sameA rfl rfl rfl ?_))); (focus (repeat (first | exact .nil | refine KeepA.cons rfl (by first | rfl | assumption | exact List.map_set | exact List.map_set.symm | (rw [← List.map_append]; first | done | rfl | congr 1) | (congr 1; first | omega | assumption)) ?_))))
    · obtain rfl : j = xs.length := by omega
      rw [List.take_of_length_le (Nat.le_refl _)] at hkj htk ⊢
      repeat' (first | refine CT.seqR ?_ | refine CT.region ?_ | refine CT.seq1 ?_ | refine CT.block ?_ | refine CT.condT rfl ?_ | refine CT.condF rfl ?_ | refine CT.condD rfl (fun _ => ?_) (fun _ => ?_) | refine CT.condN rfl (fun _ => ?_) (fun _ => ?_) | refine CT.cond rfl (fun _ => ?_) (fun _ => ?_) | refine CT.skip ?_ | refine CT.exit ?_ | refine CT.ret ?_ | refine CT.goto ?_ | refine CT.label ?_ | refine LT.nil ?_ | refine HT.nil1 ?_ | (refine LT.consT ?_; (first | refine T.alloc (e := 36) (z := .agg #[.int .u64 0, .int .u64 0, .int .u64 0, .int .u64 0, .int .i64 0, .int .i64 0]) (cs := [.val (.int .u64 0), .val (.int .u64 0), .val (.int .u64 0), .val (.int .u64 0), .val (.int .i64 0), .val (.int .i64 0)]) (by kernel_rfl) rfl (by decide) rfl rfl ?_ | refine T.storeA (t := 36) rfl rfl rfl rfl (map_at bd) (by kernel_rfl) (by kernel_rfl) (Nat.le_of_ble_eq_true (by kernel_rfl)) rfl rfl rfl ?_ | refine T.store (t := 36) rfl rfl rfl (by kernel_rfl) (by kernel_rfl) (Nat.le_of_ble_eq_true (by kernel_rfl)) rfl rfl ?_ | refine T.clearA (t := 29) (e := 36) (k := 6) (bytes := 48) (zc := [.int .u64 0, .int .u64 0, .int .u64 0, .int .u64 0, .int .i64 0, .int .i64 0]) rfl rfl bd (by kernel_rfl) (by kernel_rfl) rfl rfl rfl ?_ | refine T.cutA (t := 29) (k := 6) rfl rfl rfl rfl (by kernel_rfl) bd (by decide) rfl rfl rfl ?_)) | (apply LT.cons1; (first | exact arm108_1); decide))
      refine ⟨by first | exact .inl rfl | exact .inr rfl, ⟨_, (.cons (.tmp 4 (A := .arow _) rfl (fun _ h => by cases h)) .nil), ?_, rfl⟩, rfl, ?_⟩
      · rfl
      · have e : ∀ zs, (((ys.map encE).take (xs.filter fun x => !p x).length ++ zs).take (xs.filter fun x => !p x).length) = (xs.filter fun x => !p x).map encE := fun zs => by
          rw [List.take_left' (by rw [List.length_take, List.length_map]; omega), ← List.map_take, htk]
        exact congrArg (fun zs => [some (⟨36, 6, zs⟩ : Arr)]) (e (List.replicate ((ys.map encE).length - (xs.filter fun x => !p x).length) [.int .u64 0, .int .u64 0, .int .u64 0, .int .u64 0, .int .i64 0, .int .i64 0]))
end Go.Proofs.Ytnklfbeiagkhiaa

/- Abstract contracts: few, one, same of law 11. -/
namespace Go.Proofs.Ytnklfbeiagkhiaa
set_option linter.unusedSimpArgs false
set_option linter.unusedVariables false
open Go Go.RowKit Go.Shelf
attribute [local irreducible] OpH OpT LT CT HT Good
end Go.Proofs.Ytnklfbeiagkhiaa

/- Abstract contracts: ref11.Do. -/
namespace Go.Proofs.Ytnklfbeiagkhiaa
set_option linter.unusedSimpArgs false
set_option linter.unusedVariables false
open Go Go.RowKit Go.Shelf
/-- What an entry becomes behind a step; nothing: it goes. -/
def doOne (s : Stp) (x : Ent) : List Ent :=
  if s.kind = 1 ∧ eAlike x s.e = true then [s.e] else if s.kind = 2 ∧ eAlike x s.e = true then [] else [x]
def doStep (s : Stp) (xs : List Ent) : List Ent := xs.flatMap (doOne s) ++ (if s.kind = 0 then [s.e] else [])
theorem doOne_length (s : Stp) (x : Ent) : (doOne s x).length ≤ 1 := by unfold doOne; split <;> (try split) <;> simp
theorem doAll_length (s : Stp) (xs : List Ent) : (xs.flatMap (doOne s)).length ≤ xs.length := by
  induction xs with
  | nil => simp
  | cons x xs ih => have := doOne_length s x; simp only [List.flatMap_cons, List.length_append, List.length_cons]; omega
theorem doOne_set {s : Stp} {x : Ent} (h1 : s.kind = 1) (h2 : eAlike x s.e = true) : doOne s x = [s.e] := by unfold doOne; rw [if_pos ⟨h1, h2⟩]
theorem doOne_drop {s : Stp} {x : Ent} (h1 : s.kind = 2) (h2 : eAlike x s.e = true) : doOne s x = [] := by unfold doOne; rw [if_neg (fun h => by omega), if_pos ⟨h1, h2⟩]
theorem doOne_keep {s : Stp} {x : Ent} (h1 : ¬ (s.kind = 1 ∧ eAlike x s.e = true)) (h2 : ¬ (s.kind = 2 ∧ eAlike x s.e = true)) : doOne s x = [x] := by unfold doOne; rw [if_neg h1, if_neg h2]
theorem doTo_succ {s : Stp} {xs : List Ent} {k : Nat} (hk : k < xs.length) : (xs.take (k + 1)).flatMap (doOne s) = (xs.take k).flatMap (doOne s) ++ doOne s xs[k] := by
  rw [List.take_succ_eq_append_getElem hk, List.flatMap_append]; simp
end Go.Proofs.Ytnklfbeiagkhiaa

/- Abstract contracts: diff.Do. -/
namespace Go.Proofs.Ytnklfbeiagkhiaa
set_option linter.unusedSimpArgs false
set_option linter.unusedVariables false
open Go Go.RowKit Go.Shelf
attribute [local irreducible] OpH OpT LT CT HT Good GoodO
end Go.Proofs.Ytnklfbeiagkhiaa

/- Abstract contracts: diff.Do, diff.Count. -/
namespace Go.Proofs.Ytnklfbeiagkhiaa
set_option linter.unusedSimpArgs false
set_option linter.unusedVariables false
open Go Go.RowKit Go.Shelf
theorem do_set_step {s : Stp} {xs ys : List Ent} {k : Nat} (h1 : s.kind = 1) (hlt : k < xs.length) (hyl : ys.length = xs.length) (htk : ys.take k = (xs.take k).flatMap (doOne s)) : (ys.set k (if eAlike xs[k] s.e = true then s.e else xs[k])).take (k + 1) = (xs.take (k + 1)).flatMap (doOne s) := by
  rw [doTo_succ hlt, ← htk, List.take_succ_eq_append_getElem (by simp; omega), List.take_set_of_le (Nat.le_refl k)]
  congr 1
  cases ha : eAlike xs[k] s.e with
  | true => rw [doOne_set h1 ha]; simp
  | false => rw [doOne_keep (by simp [ha]) (by simp [ha])]; simp
theorem do_drop {s : Stp} (h2 : s.kind = 2) (xs : List Ent) : doStep s xs = xs.filter fun x => !eAlike x s.e := by
  unfold doStep
  rw [if_neg (by omega), List.append_nil]
  induction xs with
  | nil => rfl
  | cons x xs ih =>
    rw [List.flatMap_cons, ih]
    cases ha : eAlike x s.e with
    | true => rw [doOne_drop h2 ha, List.filter_cons_of_neg (by simp [ha])]; rfl
    | false => rw [doOne_keep (by simp [ha]) (by simp [ha]), List.filter_cons_of_pos (by simp [ha])]; rfl
theorem do_keepAll {s : Stp} (h1 : ¬ s.kind = 1) (h2 : ¬ s.kind = 2) (xs : List Ent) : xs.flatMap (doOne s) = xs := by
  induction xs with
  | nil => rfl
  | cons x xs ih => rw [List.flatMap_cons, ih, doOne_keep (fun h => h1 h.1) (fun h => h2 h.1)]; rfl
attribute [local irreducible] OpH OpT LT CT HT Good GoodO
theorem g_CloneE (xs : List Ent) (hm : xs.length ≤ 65536) : Good Try.prog 106 [.sl 6 (xs.map encE)] (.row 0 36 6 (xs.map encE)) :=
  Good.slRow (args := []) posE lenE oneE rfl fun A c w _ hn h => c_CloneE A c xs w hn h hm
theorem arm107_1 {p : Prop} (h : p := by first | exact OpH.assign (v := .val _) rfl | exact OpH.assign (v := .sl _ _) rfl | exact OpH.assign (v := .row _ _ _ _) rfl | exact OpH.assign (v := .full _ _) rfl | exact OpH.assign (v := .ptr _ _) rfl | exact OpH.assign (v := .cptr _) rfl | exact OpH.assign (v := .cloB _ _) rfl | exact OpH.assign (v := .clo _ _) rfl | exact OpH.assign (v := .pr _) rfl | exact OpH.assign (v := .arow _) rfl | exact OpH.assign (v := .aptr _ _ _ _) rfl | exact OpH.assign (v := .asub _ _ _ _) rfl | exact OpH.assign (v := .tup _) rfl | exact loadC6 (t := 36) rfl (by kernel_rfl) | exact loadB6 (t := 36) rfl rfl (by kernel_rfl) rfl | exact OpH.fieldC (s := 74) (f := 1) (off := 1) rfl (by kernel_rfl) rfl | exact OpH.fieldB (s := 74) (f := 1) (off := 1) rfl (by kernel_rfl) rfl | exact OpH.callF Try.func47 rfl rfl rfl (g_Alike _ _ _ _ _ _ _ _ _ _ _ _) rfl) : p := h
set_option maxRecDepth 100000 in
set_option maxHeartbeats 2000000 in
theorem g_Do1 (s : Stp) (y : Ent) : Good Try.prog 107 [.val (.agg #[.int .u64 y.w.v.x, .int .u64 y.w.v.y, .int .u64 y.w.m.x, .int .u64 y.w.m.y, .int .i64 y.len, .int .i64 y.act]), .cptr (encD s)] (.val (.bool (eAlike y s.e))) := by
  refine Good.of_body (T := [(0, _), (1, _)]) Try.func107 rfl rfl rfl ?_
  intro K0 w0 hno
  repeat' (first | refine CT.seqR ?_ | refine CT.region ?_ | refine CT.seq1 ?_ | refine CT.block ?_ | refine CT.condT rfl ?_ | refine CT.condF rfl ?_ | refine CT.condD rfl (fun _ => ?_) (fun _ => ?_) | refine CT.condN rfl (fun _ => ?_) (fun _ => ?_) | refine CT.cond rfl (fun _ => ?_) (fun _ => ?_) | refine CT.skip ?_ | refine CT.exit ?_ | refine CT.ret ?_ | refine CT.goto ?_ | refine CT.label ?_ | refine LT.nil ?_ | refine HT.nil1 ?_ | (refine LT.consT ?_; (first | refine T.box (e := 36) (cs := [.val _, .val _, .val _, .val _, .val _, .val _]) rfl rfl (by decide) rfl rfl ?_)) | (apply LT.cons1; (first | exact arm107_1); decide))
  refine ⟨by first | exact .inl rfl | exact .inr rfl, _, (.cons (.tmp 3 (A := .val _) rfl (fun _ h => by cases h)) .nil), ?_, rfl⟩
  rfl
theorem arm56_1 {p : Prop} (h : p := by first | exact OpH.assign (v := .val _) rfl | exact OpH.assign (v := .sl _ _) rfl | exact OpH.assign (v := .row _ _ _ _) rfl | exact OpH.assign (v := .full _ _) rfl | exact OpH.assign (v := .ptr _ _) rfl | exact OpH.assign (v := .cptr _) rfl | exact OpH.assign (v := .cloB _ _) rfl | exact OpH.assign (v := .clo _ _) rfl | exact OpH.assign (v := .pr _) rfl | exact OpH.assign (v := .arow _) rfl | exact OpH.assign (v := .aptr _ _ _ _) rfl | exact OpH.assign (v := .asub _ _ _ _) rfl | exact OpH.assign (v := .tup _) rfl | exact OpH.move (v := .val _) rfl | exact OpH.move (v := .sl _ _) rfl | exact OpH.move (v := .row _ _ _ _) rfl | exact OpH.move (v := .full _ _) rfl | exact OpH.move (v := .ptr _ _) rfl | exact OpH.move (v := .cptr _) rfl | exact OpH.move (v := .cloB _ _) rfl | exact OpH.move (v := .clo _ _) rfl | exact OpH.move (v := .pr _) rfl | exact OpH.move (v := .arow _) rfl | exact OpH.move (v := .aptr _ _ _ _) rfl | exact OpH.move (v := .asub _ _ _ _) rfl | exact OpH.move (v := .tup _) rfl | exact OpH.mkfn | exact OpH.mkclo1 rfl | exact OpH.mkclo2 rfl rfl | exact OpH.fieldC (s := 74) (f := 0) (off := 0) rfl (by kernel_rfl) rfl | exact OpH.fieldB (s := 74) (f := 0) (off := 0) rfl (by kernel_rfl) rfl | exact OpH.fieldA (s := 74) (f := 0) (off := 0) rfl (by kernel_rfl) rfl | exact OpH.loadC1 (t := 3) rfl (by kernel_rfl) rfl | exact OpH.loadB1 (t := 3) rfl rfl (by kernel_rfl) rfl | exact OpH.loadA1 (t := 3) rfl rfl rfl (map_at bd) (by kernel_rfl) rfl rfl | exact OpH.bin rfl rfl (pb_eql_t (by first | omega | assumption)) | exact OpH.bin rfl rfl (pb_eql_f (by first | omega | assumption)) | exact OpH.bin rfl rfl (pb_eql) | exact OpH.fieldC (s := 74) (f := 1) (off := 1) rfl (by kernel_rfl) rfl | exact OpH.fieldB (s := 74) (f := 1) (off := 1) rfl (by kernel_rfl) rfl | exact OpH.fieldA (s := 74) (f := 1) (off := 1) rfl (by kernel_rfl) rfl | exact loadC6 (t := 36) rfl (by kernel_rfl) | exact loadB6 (t := 36) rfl rfl (by kernel_rfl) rfl | exact OpH.loadA (t := 36) (vs := [_, _, _, _, _, _]) rfl rfl rfl (map_at bd) (by kernel_rfl) rfl rfl | exact lit_29_1 rfl | exact OpH.lenM (t := 29) rfl (.sl _ _) (by kernel_rfl) | exact OpH.lenM (t := 29) rfl (.row _ _ _ _) (by kernel_rfl) | exact OpH.lenM (t := 29) rfl (.full _ _) (by kernel_rfl) | exact OpH.len (t := 29) rfl slP (by kernel_rfl) | exact OpH.lenNil (t := 29) rfl (by kernel_rfl) | exact OpH.lenA (t := 29) rfl rfl (by kernel_rfl) (List.length_map _) | exact OpH.lenA (t := 29) rfl rfl (by kernel_rfl) rfl | exact OpH.bin rfl rfl (pb_lss_t (by omega)) | exact OpH.bin rfl rfl (pb_lss_f (by omega)) | exact OpH.bin rfl rfl (pb_lss) | exact OpH.indexS (t := 29) (k := 6) rfl slP rfl rfl (by kernel_rfl) (map_at bd) rfl | exact OpH.indexA (t := 29) (k := 6) rfl rfl rfl rfl (by kernel_rfl) bd | exact OpH.bin rfl rfl (pb_inc (by omega)) | exact OpH.bin rfl rfl (pb_addN rfl (by omega)) | exact OpH.bin rfl rfl (pb_add (by omega)) | exact OpH.bin rfl rfl (pb_addw)) : p := h
set_option maxRecDepth 100000 in
set_option maxHeartbeats 2000000 in
theorem g_Do (s : Stp) (xs : List Ent) (hl : xs.length ≤ 65536) : Good Try.prog 56 [.sl 6 (xs.map encE), .val (.agg #[.int .i64 s.kind, .int .u64 s.e.w.v.x, .int .u64 s.e.w.v.y, .int .u64 s.e.w.m.x, .int .u64 s.e.w.m.y, .int .i64 s.e.len, .int .i64 s.e.act])] (.row 1000 36 6 ((doStep s xs).map encE)) := by
  refine Good.of_body (T := [(0, _), (1, _)]) Try.func56 rfl rfl rfl ?_
  intro K0 w0 hno
  by_cases h0 : s.kind = 0
  · repeat' (first | (refine LT.consT ?_; refine T.callArrL 1000 Try.func106 rfl rfl rfl (g_CloneE xs hl) (by decide) rfl ?_) | (refine CT.froz hno.1 1000 rfl rfl ?_; refine CT.ret ?_) | refine CT.seqR ?_ | refine CT.region ?_ | refine CT.seq1 ?_ | refine CT.block ?_ | refine CT.condT rfl ?_ | refine CT.condF rfl ?_ | refine CT.condD rfl (fun _ => ?_) (fun _ => ?_) | refine CT.condN rfl (fun _ => ?_) (fun _ => ?_) | refine CT.cond rfl (fun _ => ?_) (fun _ => ?_) | refine CT.skip ?_ | refine CT.exit ?_ | refine CT.ret ?_ | refine CT.goto ?_ | refine CT.label ?_ | refine LT.nil ?_ | refine HT.nil1 ?_ | (refine LT.consT ?_; (first | refine T.box (e := 74) (cs := [.val _, .val _, .val _, .val _, .val _, .val _, .val _]) rfl rfl (by decide) rfl rfl ?_ | refine T.appNil (t := 29) (e := 36) (k := 6) (bytes := 48) rfl rfl srP (by kernel_rfl) szP (by decide) rfl ?_ | refine T.appA (t := 29) (e := 36) (k := 6) (bytes := 48) rfl rfl rfl srP (by kernel_rfl) szP (by decide) rfl rfl ?_ | refine T.app (t := 29) (e := 36) (k := 6) (bytes := 48) rfl rfl srP (by kernel_rfl) szP (by decide) rfl rfl ?_ | refine T.alloc (e := 36) (z := .agg #[.int .u64 0, .int .u64 0, .int .u64 0, .int .u64 0, .int .i64 0, .int .i64 0]) (cs := [.val (.int .u64 0), .val (.int .u64 0), .val (.int .u64 0), .val (.int .u64 0), .val (.int .i64 0), .val (.int .i64 0)]) (by kernel_rfl) rfl (by decide) rfl rfl ?_ | refine T.storeA (t := 36) rfl rfl rfl rfl (map_at bd) (by kernel_rfl) (by kernel_rfl) (Nat.le_of_ble_eq_true (by kernel_rfl)) rfl rfl rfl ?_ | refine T.store (t := 36) rfl rfl rfl (by kernel_rfl) (by kernel_rfl) (Nat.le_of_ble_eq_true (by kernel_rfl)) rfl rfl ?_)) | (apply LT.cons1; (first | exact arm56_1); decide))
    refine ⟨by first | exact .inl rfl | exact .inr rfl, _, (.cons (.tmp 4 (A := .row _ _ _ _) rfl (fun _ h => by cases h)) .nil), ?_, rfl⟩
    simp only [doStep, if_pos h0]
    rw [do_keepAll (by omega) (by omega), List.map_append]
    rfl
  · by_cases h1 : s.kind = 1
    · repeat' (first | (refine LT.consT ?_; refine T.callArrL 1000 Try.func106 rfl rfl rfl (g_CloneE xs hl) (by decide) rfl ?_) | (refine CT.froz hno.1 1000 rfl rfl ?_; refine CT.ret ?_) | refine CT.seqR ?_ | refine CT.region ?_ | refine CT.seq1 ?_ | refine CT.block ?_ | refine CT.condT rfl ?_ | refine CT.condF rfl ?_ | refine CT.condD rfl (fun _ => ?_) (fun _ => ?_) | refine CT.condN rfl (fun _ => ?_) (fun _ => ?_) | refine CT.cond rfl (fun _ => ?_) (fun _ => ?_) | refine CT.skip ?_ | refine CT.exit ?_ | refine CT.ret ?_ | refine CT.goto ?_ | refine CT.label ?_ | refine LT.nil ?_ | refine HT.nil1 ?_ | (refine LT.consT ?_; (first | refine T.box (e := 74) (cs := [.val _, .val _, .val _, .val _, .val _, .val _, .val _]) rfl rfl (by decide) rfl rfl ?_ | refine T.appNil (t := 29) (e := 36) (k := 6) (bytes := 48) rfl rfl srP (by kernel_rfl) szP (by decide) rfl ?_ | refine T.appA (t := 29) (e := 36) (k := 6) (bytes := 48) rfl rfl rfl srP (by kernel_rfl) szP (by decide) rfl rfl ?_ | refine T.app (t := 29) (e := 36) (k := 6) (bytes := 48) rfl rfl srP (by kernel_rfl) szP (by decide) rfl rfl ?_ | refine T.alloc (e := 36) (z := .agg #[.int .u64 0, .int .u64 0, .int .u64 0, .int .u64 0, .int .i64 0, .int .i64 0]) (cs := [.val (.int .u64 0), .val (.int .u64 0), .val (.int .u64 0), .val (.int .u64 0), .val (.int .i64 0), .val (.int .i64 0)]) (by kernel_rfl) rfl (by decide) rfl rfl ?_ | refine T.storeA (t := 36) rfl rfl rfl rfl (map_at bd) (by kernel_rfl) (by kernel_rfl) (Nat.le_of_ble_eq_true (by kernel_rfl)) rfl rfl rfl ?_ | refine T.store (t := 36) rfl rfl rfl (by kernel_rfl) (by kernel_rfl) (Nat.le_of_ble_eq_true (by kernel_rfl)) rfl rfl ?_)) | (apply LT.cons1; (first | exact arm56_1); decide))
      refine CT.loopX (fun q : Nat × List Ent => (⟨[(3, .ptr 3 0), (5, .arow 1000), (6, .cloB 107 [(3, 0)]), (23, .arow 1000), (24, .val (.int .i64 xs.length)), (25, .val (.int .i64 q.1))], [(3, (encD s).map AV.val)], [(1000, ⟨36, 6, q.2.map encE⟩)]⟩ : St))
        (fun q => q.1 ≤ xs.length ∧ q.2.length = xs.length ∧ q.2.take q.1 = (xs.take q.1).flatMap (doOne s) ∧ q.2.drop q.1 = xs.drop q.1) (fun q => xs.length - q.1) (0, xs) ?_ ?_ ?_
      · (apply Sub.mk; (focus (repeat (first | exact .nil | refine .other (.keep rfl rfl) ?_ | refine .other (.aref rfl rfl rfl) ?_ | refine .other (.val rfl (by first | rfl | (congr 1; first | omega | assumption | (symm; assumption)) | (simp; omega))) ?_ | refine .other .dead ?_ | refine .other (.sl rfl (.row _ _ _ _) rfl) ?_ | refine .other (.sl rfl (.sl _ _) rfl) ?_ | refine .other (.sl rfl (.full _ _) rfl) ?_ | refine .other (.slNil rfl rfl) ?_ | refine .rowNil rfl rfl rfl ?_ | refine .row rfl (by first | rfl | assumption | (rw [← List.map_append]; first | done | rfl | congr 1)) rfl rfl ?_))); (focus (repeat (first | exact .nil | refine KeepB.same rfl rfl rfl ?_ | refine KeepB.sameA rfl rfl rfl ?_))); (focus (repeat (first | exact .nil | refine KeepA.cons rfl (by first | rfl | assumption | exact List.map_set | exact List.map_set.symm | (rw [← List.map_append]; first | done | rfl | congr 1) | (congr 1; first | omega | assumption)) ?_))))
      · exact ⟨Nat.zero_le _, rfl, rfl, rfl⟩
      rintro ⟨k, ys⟩ ⟨hk, hyl, htk, hdr⟩
      dsimp only at hk hyl htk hdr ⊢
      by_cases hlt : k < xs.length
      · have hlty : k < ys.length := by omega
        have hyx : ys[k] = xs[k] := by
          have e1 : (ys.drop k)[0]? = (xs.drop k)[0]? := by rw [hdr]
          simpa [hlt, hlty] using e1
        have hst := do_set_step h1 hlt hyl htk
        have hd1 := g_Do1 s ys[k]
        cases ha : eAlike ys[k] s.e with
        | true =>
          rw [ha] at hd1
          repeat' (first | refine CT.seqR ?_ | refine CT.region ?_ | refine CT.seq1 ?_ | refine CT.block ?_ | refine CT.condT rfl ?_ | refine CT.condF rfl ?_ | refine CT.condD rfl (fun _ => ?_) (fun _ => ?_) | refine CT.condN rfl (fun _ => ?_) (fun _ => ?_) | refine CT.cond rfl (fun _ => ?_) (fun _ => ?_) | refine CT.skip ?_ | refine CT.exit ?_ | refine CT.ret ?_ | refine CT.goto ?_ | refine CT.label ?_ | refine LT.nil ?_ | refine HT.nil1 ?_ | (refine LT.consT ?_; (first | refine T.box (e := 74) (cs := [.val _, .val _, .val _, .val _, .val _, .val _, .val _]) rfl rfl (by decide) rfl rfl ?_ | refine T.appNil (t := 29) (e := 36) (k := 6) (bytes := 48) rfl rfl srP (by kernel_rfl) szP (by decide) rfl ?_ | refine T.appA (t := 29) (e := 36) (k := 6) (bytes := 48) rfl rfl rfl srP (by kernel_rfl) szP (by decide) rfl rfl ?_ | refine T.app (t := 29) (e := 36) (k := 6) (bytes := 48) rfl rfl srP (by kernel_rfl) szP (by decide) rfl rfl ?_ | refine T.alloc (e := 36) (z := .agg #[.int .u64 0, .int .u64 0, .int .u64 0, .int .u64 0, .int .i64 0, .int .i64 0]) (cs := [.val (.int .u64 0), .val (.int .u64 0), .val (.int .u64 0), .val (.int .u64 0), .val (.int .i64 0), .val (.int .i64 0)]) (by kernel_rfl) rfl (by decide) rfl rfl ?_ | refine T.storeA (t := 36) rfl rfl rfl rfl (map_at bd) (by kernel_rfl) (by kernel_rfl) (Nat.le_of_ble_eq_true (by kernel_rfl)) rfl rfl rfl ?_ | refine T.store (t := 36) rfl rfl rfl (by kernel_rfl) (by kernel_rfl) (Nat.le_of_ble_eq_true (by kernel_rfl)) rfl rfl ?_)) | (apply LT.cons1; (first | exact OpH.callD (v := .bool true) rfl rfl Try.func107 rfl rfl rfl hd1 | exact arm56_1); decide))
          rw [hyx] at ha
          rw [if_pos ha] at hst
          refine ⟨(k + 1, ys.set k s.e), ⟨hlt, by simpa using hyl, hst, ?_⟩, by dsimp only; omega, ?_⟩
          · dsimp only; rw [List.drop_set_of_lt (by omega), ← List.drop_drop, ← List.drop_drop, hdr]
          · dsimp only
            (apply Sub.mk; (focus (repeat (first | exact .nil | refine .other (.keep rfl rfl) ?_ | refine .other (.aref rfl rfl rfl) ?_ | refine .other (.val rfl (by first | rfl | (congr 1; first | omega | assumption | (symm; assumption)) | (simp; omega))) ?_ | refine .other .dead ?_ | refine .other (.sl rfl (.row _ _ _ _) rfl) ?_ | refine .other (.sl rfl (.sl _ _) rfl) ?_ | refine .other (.sl rfl (.full _ _) rfl) ?_ | refine .other (.slNil rfl rfl) ?_ | refine .rowNil rfl rfl rfl ?_ | refine .row rfl (by first | rfl | assumption | (rw [← List.map_append]; first | done | rfl | congr 1)) rfl rfl ?_))); (focus (repeat (first | exact .nil | refine KeepB.same rfl rfl rfl ?_ | refine KeepB.sameA rfl rfl rfl ?_))); (focus (repeat (first | exact .nil | refine KeepA.cons rfl (by first | rfl | assumption | exact List.map_set | exact List.map_set.symm | (rw [← List.map_append]; first | done | rfl | congr 1) | (congr 1; first | omega | assumption)) ?_))))
        | false =>
          rw [ha] at hd1
          repeat' (first | refine CT.seqR ?_ | refine CT.region ?_ | refine CT.seq1 ?_ | refine CT.block ?_ | refine CT.condT rfl ?_ | refine CT.condF rfl ?_ | refine CT.condD rfl (fun _ => ?_) (fun _ => ?_) | refine CT.condN rfl (fun _ => ?_) (fun _ => ?_) | refine CT.cond rfl (fun _ => ?_) (fun _ => ?_) | refine CT.skip ?_ | refine CT.exit ?_ | refine CT.ret ?_ | refine CT.goto ?_ | refine CT.label ?_ | refine LT.nil ?_ | refine HT.nil1 ?_ | (refine LT.consT ?_; (first | refine T.box (e := 74) (cs := [.val _, .val _, .val _, .val _, .val _, .val _, .val _]) rfl rfl (by decide) rfl rfl ?_ | refine T.appNil (t := 29) (e := 36) (k := 6) (bytes := 48) rfl rfl srP (by kernel_rfl) szP (by decide) rfl ?_ | refine T.appA (t := 29) (e := 36) (k := 6) (bytes := 48) rfl rfl rfl srP (by kernel_rfl) szP (by decide) rfl rfl ?_ | refine T.app (t := 29) (e := 36) (k := 6) (bytes := 48) rfl rfl srP (by kernel_rfl) szP (by decide) rfl rfl ?_ | refine T.alloc (e := 36) (z := .agg #[.int .u64 0, .int .u64 0, .int .u64 0, .int .u64 0, .int .i64 0, .int .i64 0]) (cs := [.val (.int .u64 0), .val (.int .u64 0), .val (.int .u64 0), .val (.int .u64 0), .val (.int .i64 0), .val (.int .i64 0)]) (by kernel_rfl) rfl (by decide) rfl rfl ?_ | refine T.storeA (t := 36) rfl rfl rfl rfl (map_at bd) (by kernel_rfl) (by kernel_rfl) (Nat.le_of_ble_eq_true (by kernel_rfl)) rfl rfl rfl ?_ | refine T.store (t := 36) rfl rfl rfl (by kernel_rfl) (by kernel_rfl) (Nat.le_of_ble_eq_true (by kernel_rfl)) rfl rfl ?_)) | (apply LT.cons1; (first | exact OpH.callD (v := .bool false) rfl rfl Try.func107 rfl rfl rfl hd1 | exact arm56_1); decide))
          rw [hyx] at ha
          rw [if_neg (by simp [ha]), ← hyx, List.set_getElem_self] at hst
          refine ⟨(k + 1, ys), ⟨hlt, hyl, hst, ?_⟩, by dsimp only; omega, ?_⟩
          · dsimp only; rw [← List.drop_drop, ← List.drop_drop, hdr]
          · dsimp only
            (apply Sub.mk; (focus (repeat (first | exact .nil | refine .other (.keep rfl rfl) ?_ | refine .other (.aref rfl rfl rfl) ?_ | refine .other (.val rfl (by first | rfl | (congr 1; first | omega | assumption | (symm; assumption)) | (simp; omega))) ?_ | refine .other .dead ?_ | refine .other (.sl rfl (.row _ _ _ _) rfl) ?_ | refine .other (.sl rfl (.sl _ _) rfl) ?_ | refine .other (.sl rfl (.full _ _) rfl) ?_ | refine .other (.slNil rfl rfl) ?_ | refine .rowNil rfl rfl rfl ?_ | refine .row rfl (by first | rfl | assumption | (rw [← List.map_append]; first | done | rfl | congr 1)) rfl rfl ?_))); (focus (repeat (first | exact .nil | refine KeepB.same rfl rfl rfl ?_ | refine KeepB.sameA rfl rfl rfl ?_))); (focus (repeat (first | exact .nil | refine KeepA.cons rfl (by first | rfl | assumption | exact List.map_set | exact List.map_set.symm | (rw [← List.map_append]; first | done | rfl | congr 1) | (congr 1; first | omega | assumption)) ?_))))
      · obtain rfl : k = xs.length := by omega
        repeat' (first | (refine CT.froz hno.1 1000 rfl rfl ?_; refine CT.ret ?_) | refine CT.seqR ?_ | refine CT.region ?_ | refine CT.seq1 ?_ | refine CT.block ?_ | refine CT.condT rfl ?_ | refine CT.condF rfl ?_ | refine CT.condD rfl (fun _ => ?_) (fun _ => ?_) | refine CT.condN rfl (fun _ => ?_) (fun _ => ?_) | refine CT.cond rfl (fun _ => ?_) (fun _ => ?_) | refine CT.skip ?_ | refine CT.exit ?_ | refine CT.ret ?_ | refine CT.goto ?_ | refine CT.label ?_ | refine LT.nil ?_ | refine HT.nil1 ?_ | (refine LT.consT ?_; (first | refine T.box (e := 74) (cs := [.val _, .val _, .val _, .val _, .val _, .val _, .val _]) rfl rfl (by decide) rfl rfl ?_ | refine T.appNil (t := 29) (e := 36) (k := 6) (bytes := 48) rfl rfl srP (by kernel_rfl) szP (by decide) rfl ?_ | refine T.appA (t := 29) (e := 36) (k := 6) (bytes := 48) rfl rfl rfl srP (by kernel_rfl) szP (by decide) rfl rfl ?_ | refine T.app (t := 29) (e := 36) (k := 6) (bytes := 48) rfl rfl srP (by kernel_rfl) szP (by decide) rfl rfl ?_ | refine T.alloc (e := 36) (z := .agg #[.int .u64 0, .int .u64 0, .int .u64 0, .int .u64 0, .int .i64 0, .int .i64 0]) (cs := [.val (.int .u64 0), .val (.int .u64 0), .val (.int .u64 0), .val (.int .u64 0), .val (.int .i64 0), .val (.int .i64 0)]) (by kernel_rfl) rfl (by decide) rfl rfl ?_ | refine T.storeA (t := 36) rfl rfl rfl rfl (map_at bd) (by kernel_rfl) (by kernel_rfl) (Nat.le_of_ble_eq_true (by kernel_rfl)) rfl rfl rfl ?_ | refine T.store (t := 36) rfl rfl rfl (by kernel_rfl) (by kernel_rfl) (Nat.le_of_ble_eq_true (by kernel_rfl)) rfl rfl ?_)) | (apply LT.cons1; (first | exact arm56_1); decide))
        refine ⟨by first | exact .inl rfl | exact .inr rfl, _, (.cons (.tmp 4 (A := .row _ _ _ _) rfl (fun _ h => by cases h)) .nil), ?_, rfl⟩
        rw [List.take_of_length_le (Nat.le_refl _), List.take_of_length_le (by omega)] at htk
        simp only [doStep, if_neg h0, List.append_nil, ← htk]
        rfl
    · by_cases h2 : s.kind = 2
      · have hD := go_DeleteFuncE xs 107 _ _ [encD s] (fun y => eAlike y s.e) Try.func107 rfl rfl (fun y => g_Do1 s y) hl
        rw [← do_drop h2] at hD
        repeat' (first | (refine LT.consT ?_; refine T.callArrL 1000 Try.func106 rfl rfl rfl (g_CloneE xs hl) (by decide) rfl ?_) | (refine LT.consT ?_; refine T.callO Try.func108 rfl rfl hD rfl rfl rfl rfl rfl rfl (fun p h => by cases h) rfl rfl (by decide) ?_) | (refine CT.froz hno.1 1000 rfl rfl ?_; refine CT.ret ?_) | refine CT.seqR ?_ | refine CT.region ?_ | refine CT.seq1 ?_ | refine CT.block ?_ | refine CT.condT rfl ?_ | refine CT.condF rfl ?_ | refine CT.condD rfl (fun _ => ?_) (fun _ => ?_) | refine CT.condN rfl (fun _ => ?_) (fun _ => ?_) | refine CT.cond rfl (fun _ => ?_) (fun _ => ?_) | refine CT.skip ?_ | refine CT.exit ?_ | refine CT.ret ?_ | refine CT.goto ?_ | refine CT.label ?_ | refine LT.nil ?_ | refine HT.nil1 ?_ | (refine LT.consT ?_; (first | refine T.box (e := 74) (cs := [.val _, .val _, .val _, .val _, .val _, .val _, .val _]) rfl rfl (by decide) rfl rfl ?_ | refine T.appNil (t := 29) (e := 36) (k := 6) (bytes := 48) rfl rfl srP (by kernel_rfl) szP (by decide) rfl ?_ | refine T.appA (t := 29) (e := 36) (k := 6) (bytes := 48) rfl rfl rfl srP (by kernel_rfl) szP (by decide) rfl rfl ?_ | refine T.app (t := 29) (e := 36) (k := 6) (bytes := 48) rfl rfl srP (by kernel_rfl) szP (by decide) rfl rfl ?_ | refine T.alloc (e := 36) (z := .agg #[.int .u64 0, .int .u64 0, .int .u64 0, .int .u64 0, .int .i64 0, .int .i64 0]) (cs := [.val (.int .u64 0), .val (.int .u64 0), .val (.int .u64 0), .val (.int .u64 0), .val (.int .i64 0), .val (.int .i64 0)]) (by kernel_rfl) rfl (by decide) rfl rfl ?_ | refine T.storeA (t := 36) rfl rfl rfl rfl (map_at bd) (by kernel_rfl) (by kernel_rfl) (Nat.le_of_ble_eq_true (by kernel_rfl)) rfl rfl rfl ?_ | refine T.store (t := 36) rfl rfl rfl (by kernel_rfl) (by kernel_rfl) (Nat.le_of_ble_eq_true (by kernel_rfl)) rfl rfl ?_)) | (apply LT.cons1; (first | exact arm56_1); decide))
        refine ⟨by first | exact .inl rfl | exact .inr rfl, _, (.cons (.tmp 4 (A := .row _ _ _ _) rfl (fun _ h => by cases h)) .nil), ?_, rfl⟩
        rfl
      · repeat' (first | (refine LT.consT ?_; refine T.callArrL 1000 Try.func106 rfl rfl rfl (g_CloneE xs hl) (by decide) rfl ?_) | (refine CT.froz hno.1 1000 rfl rfl ?_; refine CT.ret ?_) | refine CT.seqR ?_ | refine CT.region ?_ | refine CT.seq1 ?_ | refine CT.block ?_ | refine CT.condT rfl ?_ | refine CT.condF rfl ?_ | refine CT.condD rfl (fun _ => ?_) (fun _ => ?_) | refine CT.condN rfl (fun _ => ?_) (fun _ => ?_) | refine CT.cond rfl (fun _ => ?_) (fun _ => ?_) | refine CT.skip ?_ | refine CT.exit ?_ | refine CT.ret ?_ | refine CT.goto ?_ | refine CT.label ?_ | refine LT.nil ?_ | refine HT.nil1 ?_ | (refine LT.consT ?_; (first | refine T.box (e := 74) (cs := [.val _, .val _, .val _, .val _, .val _, .val _, .val _]) rfl rfl (by decide) rfl rfl ?_ | refine T.appNil (t := 29) (e := 36) (k := 6) (bytes := 48) rfl rfl srP (by kernel_rfl) szP (by decide) rfl ?_ | refine T.appA (t := 29) (e := 36) (k := 6) (bytes := 48) rfl rfl rfl srP (by kernel_rfl) szP (by decide) rfl rfl ?_ | refine T.app (t := 29) (e := 36) (k := 6) (bytes := 48) rfl rfl srP (by kernel_rfl) szP (by decide) rfl rfl ?_ | refine T.alloc (e := 36) (z := .agg #[.int .u64 0, .int .u64 0, .int .u64 0, .int .u64 0, .int .i64 0, .int .i64 0]) (cs := [.val (.int .u64 0), .val (.int .u64 0), .val (.int .u64 0), .val (.int .u64 0), .val (.int .i64 0), .val (.int .i64 0)]) (by kernel_rfl) rfl (by decide) rfl rfl ?_ | refine T.storeA (t := 36) rfl rfl rfl rfl (map_at bd) (by kernel_rfl) (by kernel_rfl) (Nat.le_of_ble_eq_true (by kernel_rfl)) rfl rfl rfl ?_ | refine T.store (t := 36) rfl rfl rfl (by kernel_rfl) (by kernel_rfl) (Nat.le_of_ble_eq_true (by kernel_rfl)) rfl rfl ?_)) | (apply LT.cons1; (first | exact arm56_1); decide))
        refine ⟨by first | exact .inl rfl | exact .inr rfl, _, (.cons (.tmp 4 (A := .row _ _ _ _) rfl (fun _ h => by cases h)) .nil), ?_, rfl⟩
        simp only [doStep, if_neg h0, List.append_nil]
        rw [do_keepAll h1 h2]
        rfl
end Go.Proofs.Ytnklfbeiagkhiaa
