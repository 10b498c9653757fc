/- -/
import Derived.Test.YtjmnnkhdadoehaaQWalkM
import Derived.Test.YtjmnnkhdadoehaaQAbs8
import Derived.Test.YtjmnnkhdadoehaaQWalkS


/- -/

/- -/

/- -/
