/- Contracts of the library, laid at this program. -/
import Derived.Shelf.Small.Bits
import Derived.Test.YtnklfbeiagkhiaaProg
namespace Go.Proofs
open Go.Shelf
def Try.layLz_ren : Go.Shelf.Ren := ⟨fun | 134 => 162 | 129 => 161 | n => n, fun | 53 => 23 | 3 => 3 | 4 => 4 | 46 => 183 | 5 => 5 | 9 => 9 | n => n, fun | n => n⟩
theorem Try.layLz : Go.Proofs.Lays.n134 Try.prog Try.layLz_ren := {
  mixed := by kernel_rfl
  f129 := Try.func161.trans (congrArg some (by kernel_rfl))
  f134 := Try.func162.trans (congrArg some (by kernel_rfl))
  t3 := Try.underlying3
  a3 := Try.isAgg3
  z3 := Try.sizeOf3
  v3 := Try.zeroValue3
  t4 := Try.underlying4
  a4 := Try.isAgg4
  z4 := Try.sizeOf4
  v4 := Try.zeroValue4
  t5 := Try.underlying5
  a5 := Try.isAgg5
  z5 := Try.sizeOf5
  v5 := Try.zeroValue5
  t9 := Try.underlying9
  a9 := Try.isAgg9
  z9 := Try.sizeOf9
  v9 := Try.zeroValue9
  t46 := Try.underlying183
  a46 := Try.isAgg183
  z46 := Try.sizeOf183
  v46 := Try.zeroValue183
  t53 := Try.underlying23
  a53 := Try.isAgg23
  z53 := Try.sizeOf23
  v53 := Try.zeroValue23 }
end Go.Proofs
