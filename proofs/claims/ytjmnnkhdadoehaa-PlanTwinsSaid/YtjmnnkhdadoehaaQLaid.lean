/- -/
import Derived.Shelf.SlSortCmp.WholeK
import Derived.Test.YtjmnnkhdadoehaaProg

