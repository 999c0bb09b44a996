/- All of the small logic. -/
import Derived.Test.YtlegagccaeoidaaHxMore
import Derived.Test.YtlegagccaeoidaaHxMap
import Derived.Test.YtlegagccaeoidaaHxDel
import Derived.Test.YtlegagccaeoidaaHxCol
import Derived.Test.YtlegagccaeoidaaHxNest
import Derived.Test.YtlegagccaeoidaaHxBits
import Derived.Test.YtlegagccaeoidaaHxLoops
