/- All of the small logic. -/
import Derived.Test.YthpjaddchdnejaaHxMore
import Derived.Test.YthpjaddchdnejaaHxMap
import Derived.Test.YthpjaddchdnejaaHxDel
import Derived.Test.YthpjaddchdnejaaHxCol
import Derived.Test.YthpjaddchdnejaaHxNest
import Derived.Test.YthpjaddchdnejaaHxBits
import Derived.Test.YthpjaddchdnejaaHxLoops
