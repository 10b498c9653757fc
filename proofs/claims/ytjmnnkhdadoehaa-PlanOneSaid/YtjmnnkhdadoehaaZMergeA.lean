/- -/
import Derived.Test.YtjmnnkhdadoehaaZWalkM
import Derived.Test.YtjmnnkhdadoehaaZAbs8
import Derived.Test.YtjmnnkhdadoehaaZWalkS


/- -/

/- -/

/- -/
