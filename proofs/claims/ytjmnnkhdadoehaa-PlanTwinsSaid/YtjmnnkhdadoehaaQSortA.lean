/- -/
import Derived.Test.YtjmnnkhdadoehaaQOwn
import Derived.Shelf.SlSortCmp.NoneTotal
import Derived.Shelf.SlSortCmp.WholeK

