
import Derived.Test.YtcopfjjpiobclaaGreatDoorXSM
import Derived.Test.YtcopfjjpiobclaaGreatDoorXSShelf
namespace Go.Hx
open Go Go.Proofs
set_option linter.unusedSimpArgs false
set_option linter.unusedVariables false
set_option maxRecDepth 10000
theorem C2 (p0 : ByteArray) (y0 : Int) (y1 : Bool) (H : xI p0 = some (y0, y1)) (K : Kp) (G : List Ent) (hT : TabK K) :
  Fc Tryz.prog 80 #[(.string p0)] K (G) (fun v K' G' => ∃ (ey1 : Value), v = (.tuple #[(.int .i64 y0), ey1]) ∧ K = K' ∧ G = G' ∧ yM y1 ey1) :=
 D8 H hT

theorem AU (p0 : Int) (y0 : ByteArray) (H : yS p0 = some y0) (K : Kp) (G : List Ent) (hT : TabK K) :
  Fc Tryz.prog 63 #[(.int .i64 p0)] K (G) (fun v K' G' => v = (.string y0) ∧ K = K' ∧ G = G') :=
 D9 H hT

theorem C3 (p0 : ByteArray) (p1 : Int) (p2 : Int) (y0 : Int) (y1 : Bool) (H : xJ p0 p1 p2 = some (y0, y1)) (K : Kp) (G : List Ent) (hT : TabK K) :
  Fc Tryz.prog 81 #[(.string p0), (.int .i64 p1), (.int .i64 p2)] K (G) (fun v K' G' => ∃ (ey1 : Value), v = (.tuple #[(.int .u64 y0), ey1]) ∧ K = K' ∧ G = G' ∧ yM y1 ey1) :=
 Cb H hT

theorem AV (p0 : Int) (p1 : Int) (y0 : ByteArray) (H : yT p0 p1 = some y0) (K : Kp) (G : List Ent) (hT : TabK K) :
  Fc Tryz.prog 64 #[(.int .u64 p0), (.int .i64 p1)] K (G) (fun v K' G' => v = (.string y0) ∧ K = K' ∧ G = G') :=
 EW H hT


end Go.Hx
