/- Abstract contracts of the calls over rows. -/
import Derived.Test.YtjgjohonbjmakaaGoodA
import Derived.Test.YtjgjohonbjmakaaWalkE
import Derived.Test.YtjgjohonbjmakaaWalkF
import Derived.Test.YtjgjohonbjmakaaWalkG
import Derived.Test.YtjgjohonbjmakaaWalkR3
import Derived.Test.YtjgjohonbjmakaaWalkT
namespace Go.Proofs.Ytjgjohonbjmakaa
set_option linter.unusedSimpArgs false
set_option linter.unusedVariables false
open Go Go.RowKit Go.Shelf
theorem g_awake5 : Good Try.prog 13 [] (.val (.bool true)) := Good.vals (args := []) rfl c_awake5
theorem g_Tell (xs : List Ent) (a0 a1 : Int) : Good Try.prog 14 [.sl 6 (xs.map encE), .val (.agg #[.int .u64 a0, .int .u64 a1])] (.val (.int .i64 (tell xs ⟨a0, a1⟩))) :=
  Good.sl1 (args := [.agg #[.int .u64 a0, .int .u64 a1]]) posE rfl fun A c w _ _ h => c_Tell A c xs a0 a1 w h
theorem g_rFirst (xs : List Ent) (a0 a1 : Int) (ha : A2.ok ⟨a0, a1⟩) (hok : ∀ x ∈ xs, x.w.ok) : Good Try.prog 11 [.sl 6 (xs.map encE), .val (.agg #[.int .u64 a0, .int .u64 a1])] (.val (.int .i64 (firstAt (fun x => rMatch x.w ⟨a0, a1⟩) xs))) :=
  Good.sl1 (args := [.agg #[.int .u64 a0, .int .u64 a1]]) posE rfl fun A c w _ _ h => c_rFirst A c xs a0 a1 ha hok w h
theorem g_law5Of (xs : List Ent) (hm : xs.length ≤ 65536) : Good Try.prog 23 [.sl 6 (xs.map encE)] (.row 0 34 6 (xs.map encE)) :=
  Good.slRow (args := []) posE lenE oneE rfl fun A c w _ _ h => c_law5Of A c xs w h hm
theorem g_eSort (xs : List Ent) (hm : xs.length ≤ 65536) : Good Try.prog 32 [.sl 6 (xs.map encE)] (.row 0 29 6 ((sortE xs).map encE)) :=
  Good.slRow (args := []) posE lenE oneE rfl fun A c w _ hn h => (c_eSort A c xs w hn h hm).mono fun _ _ ⟨v, h1, h2, h3⟩ => ⟨v, h1, by rw [sortE_length]; exact h2, h3⟩
end Go.Proofs.Ytjgjohonbjmakaa
