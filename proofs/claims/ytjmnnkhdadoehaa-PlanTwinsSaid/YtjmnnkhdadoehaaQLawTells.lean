/- -/
import Derived.Test.YtjmnnkhdadoehaaQGoods
import Derived.Test.YtjmnnkhdadoehaaQOpen


/- -/
