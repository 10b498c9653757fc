/- Contracts of the library, laid at this program. -/
import Derived.Shelf.Small.Bits
import Derived.Test.YtkfmammkbmhfaaaProg
namespace Go.Proofs
open Go.Shelf
end Go.Proofs
