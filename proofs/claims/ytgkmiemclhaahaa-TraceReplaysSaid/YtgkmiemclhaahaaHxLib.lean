/- All of the small logic. -/
import Derived.Test.YtgkmiemclhaahaaHxMore
import Derived.Test.YtgkmiemclhaahaaHxMap
import Derived.Test.YtgkmiemclhaahaaHxDel
import Derived.Test.YtgkmiemclhaahaaHxCol
import Derived.Test.YtgkmiemclhaahaaHxNest
import Derived.Test.YtgkmiemclhaahaaHxBits
import Derived.Test.YtgkmiemclhaahaaHxLoops
