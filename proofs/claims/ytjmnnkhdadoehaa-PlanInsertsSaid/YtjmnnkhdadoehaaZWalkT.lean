/- -/
import Derived.Test.YtjmnnkhdadoehaaZWalkJ
import Derived.Test.YtjmnnkhdadoehaaZSpecH
import Derived.Test.YtjmnnkhdadoehaaZSortA
import Derived.Test.YtjmnnkhdadoehaaZAppB
import Derived.Test.YtjmnnkhdadoehaaZLaid

