/- -/
import Derived.Shelf.Small.Bits
import Derived.Test.YtjmnnkhdadoehaaProg

