/- -/
import Derived.Test.YtjmnnkhdadoehaaZWalkI
import Derived.Test.YtjmnnkhdadoehaaZSpecH
import Derived.Test.YtjmnnkhdadoehaaZAppB
import Derived.Test.YtjmnnkhdadoehaaZOwn

