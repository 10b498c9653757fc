/- -/
import Derived.Test.YtjmnnkhdadoehaaZWalkI
import Derived.Test.YtjmnnkhdadoehaaZPlan
import Derived.Shelf.SlSortCmp.WholeK

