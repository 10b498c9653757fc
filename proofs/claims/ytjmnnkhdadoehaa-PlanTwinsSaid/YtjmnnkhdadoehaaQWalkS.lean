/- -/
import Derived.Test.YtjmnnkhdadoehaaQWalkI
import Derived.Test.YtjmnnkhdadoehaaQSpecH
import Derived.Test.YtjmnnkhdadoehaaQAppB
import Derived.Test.YtjmnnkhdadoehaaQOwn

