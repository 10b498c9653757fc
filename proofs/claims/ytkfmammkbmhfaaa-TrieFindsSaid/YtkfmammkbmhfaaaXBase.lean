/- The data that the walks speak of: addresses, words, entries, prefixes, routes, slots. -/
namespace Go.Proofs.Ytkfmammkbmhfaaa
set_option linter.unusedSimpArgs false
set_option linter.unusedVariables false
def same {α : Type} [DecidableEq α] (a b : α) : Bool := decide (a = b)
structure A2 where
  x : Int
  y : Int
instance : DecidableEq A2 := fun a b => decidable_of_iff (a.x = b.x ∧ a.y = b.y) (by cases a; cases b; simp)
instance : Inhabited A2 := ⟨⟨0, 0⟩⟩
structure W2 where
  v : A2
  m : A2
instance : DecidableEq W2 := fun a b => decidable_of_iff (a.v = b.v ∧ a.m = b.m) (by cases a; cases b; simp)
instance : Inhabited W2 := ⟨⟨default, default⟩⟩
structure Ent where
  w : W2
  len : Int
  act : Int
instance : DecidableEq Ent := fun a b => decidable_of_iff (a.w = b.w ∧ a.len = b.len ∧ a.act = b.act) (by cases a; cases b; simp)
instance : Inhabited Ent := ⟨⟨default, 0, 0⟩⟩
structure Pfx where
  a : A2
  len : Int
instance : DecidableEq Pfx := fun a b => decidable_of_iff (a.a = b.a ∧ a.len = b.len) (by cases a; cases b; simp)
instance : Inhabited Pfx := ⟨⟨default, 0⟩⟩
structure Rte where
  p : Pfx
  act : Int
instance : DecidableEq Rte := fun a b => decidable_of_iff (a.p = b.p ∧ a.act = b.act) (by cases a; cases b; simp)
instance : Inhabited Rte := ⟨⟨default, 0⟩⟩
structure Slt where
  valid : Bool
  e : Ent
instance : DecidableEq Slt := fun a b => decidable_of_iff (a.valid = b.valid ∧ a.e = b.e) (by cases a; cases b; simp)
instance : Inhabited Slt := ⟨⟨false, default⟩⟩
structure Wrt where
  at_ : Int
  s : Slt
instance : DecidableEq Wrt := fun a b => decidable_of_iff (a.at_ = b.at_ ∧ a.s = b.s) (by cases a; cases b; simp)
instance : Inhabited Wrt := ⟨⟨0, default⟩⟩
structure Stp where
  kind : Int
  e : Ent
instance : DecidableEq Stp := fun a b => decidable_of_iff (a.kind = b.kind ∧ a.e = b.e) (by cases a; cases b; simp)
instance : Inhabited Stp := ⟨⟨0, default⟩⟩
end Go.Proofs.Ytkfmammkbmhfaaa
