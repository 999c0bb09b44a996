/- All of the small logic. -/
import Derived.Test.YtgpoanmjkggijaaHxMore
import Derived.Test.YtgpoanmjkggijaaHxMap
import Derived.Test.YtgpoanmjkggijaaHxDel
import Derived.Test.YtgpoanmjkggijaaHxCol
import Derived.Test.YtgpoanmjkggijaaHxNest
import Derived.Test.YtgpoanmjkggijaaHxLoops
