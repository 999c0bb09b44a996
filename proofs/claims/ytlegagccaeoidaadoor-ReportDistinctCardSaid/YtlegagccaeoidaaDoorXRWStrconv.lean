/- Printed by program. -/
import Derived.Test.YtlegagccaeoidaaDoorXRM
import Derived.Test.YtlegagccaeoidaaDoorXRShelf
namespace Go.Hx
open Go Go.Proofs
set_option linter.unusedSimpArgs false
set_option linter.unusedVariables false
set_option maxRecDepth 10000
theorem c_M_strconv_FormatUint (p0 : Int) (p1 : Int) (y0 : ByteArray) (H : M_strconv_FormatUint p0 p1 = some y0) (K : Kp) (G : List Ent) (hT : TabK K) :
    Fc Tryd.prog 17 #[(.int .u64 p0), (.int .i64 p1)] K (G) (fun v K' G' => v = (.string y0) ∧ K = K' ∧ G = G') :=
  Fc_fmt H hT

theorem c_M_strconv_Itoa (p0 : Int) (y0 : ByteArray) (H : M_strconv_Itoa p0 = some y0) (K : Kp) (G : List Ent) (hT : TabK K) :
    Fc Tryd.prog 13 #[(.int .i64 p0)] K (G) (fun v K' G' => v = (.string y0) ∧ K = K' ∧ G = G') :=
  Fc_itoa H hT


end Go.Hx
