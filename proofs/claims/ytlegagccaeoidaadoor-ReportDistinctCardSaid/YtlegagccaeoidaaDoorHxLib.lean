/- All of the small logic. -/
import Derived.Test.YtlegagccaeoidaaDoorHxMore
import Derived.Test.YtlegagccaeoidaaDoorHxMap
import Derived.Test.YtlegagccaeoidaaDoorHxDel
import Derived.Test.YtlegagccaeoidaaDoorHxCol
import Derived.Test.YtlegagccaeoidaaDoorHxNest
import Derived.Test.YtlegagccaeoidaaDoorHxBits
import Derived.Test.YtlegagccaeoidaaDoorHxLoops
