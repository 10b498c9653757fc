/- -/
import Derived.Test.YtjmnnkhdadoehaaQWalkI
import Derived.Test.YtjmnnkhdadoehaaQPlan
import Derived.Shelf.SlSortCmp.WholeK

