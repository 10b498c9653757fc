/- -/
import Derived.Test.YtjmnnkhdadoehaaZOwn
import Derived.Shelf.SlSortCmp.NoneTotal
import Derived.Shelf.SlSortCmp.WholeK

