/- -/
import Derived.Test.YtjmnnkhdadoehaaZGoods
import Derived.Test.YtjmnnkhdadoehaaZOpen


/- -/
