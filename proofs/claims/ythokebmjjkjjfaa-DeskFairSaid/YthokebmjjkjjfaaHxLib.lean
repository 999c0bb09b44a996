/- All of the small logic. -/
import Derived.Test.YthokebmjjkjjfaaHxMore
import Derived.Test.YthokebmjjkjjfaaHxDel
import Derived.Test.YthokebmjjkjjfaaHxCol
import Derived.Test.YthokebmjjkjjfaaHxNest
import Derived.Test.YthokebmjjkjjfaaHxLoops
