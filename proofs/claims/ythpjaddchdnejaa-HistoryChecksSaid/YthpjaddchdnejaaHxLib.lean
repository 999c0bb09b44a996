/- All of the small logic. -/
import Derived.Test.YthpjaddchdnejaaHxMore
import Derived.Test.YthpjaddchdnejaaHxMap
import Derived.Test.YthpjaddchdnejaaHxDel
