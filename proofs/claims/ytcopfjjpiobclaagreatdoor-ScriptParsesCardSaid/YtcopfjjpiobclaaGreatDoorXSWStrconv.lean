
import Derived.Test.YtcopfjjpiobclaaGreatDoorXSM
import Derived.Test.YtcopfjjpiobclaaGreatDoorXSShelf
namespace Go.Hx
open Go Go.Proofs
set_option linter.unusedSimpArgs false
set_option linter.unusedVariables false
set_option maxRecDepth 10000
theorem ak5 (p0 : ByteArray) (y0 : Int) (y1 : Bool) (H : afI p0 = some (y0, y1)) (K : Kp) (G : List Ent) (hT : TabK K) :
  Fc Tryz.prog 80 #[(.string p0)] K (G) (fun v K' G' => ∃ (ey1 : Value), v = (.tuple #[(.int .i64 y0), ey1]) ∧ K = K' ∧ G = G' ∧ ahi y1 ey1) :=
 al0 H hT

theorem ahq (p0 : Int) (y0 : ByteArray) (H : Lx p0 = some y0) (K : Kp) (G : List Ent) (hT : TabK K) :
  Fc Tryz.prog 63 #[(.int .i64 p0)] K (G) (fun v K' G' => v = (.string y0) ∧ K = K' ∧ G = G') :=
 al1 H hT

theorem ak6 (p0 : ByteArray) (p1 : Int) (p2 : Int) (y0 : Int) (y1 : Bool) (H : afJ p0 p1 p2 = some (y0, y1)) (K : Kp) (G : List Ent) (hT : TabK K) :
  Fc Tryz.prog 81 #[(.string p0), (.int .i64 p1), (.int .i64 p2)] K (G) (fun v K' G' => ∃ (ey1 : Value), v = (.tuple #[(.int .u64 y0), ey1]) ∧ K = K' ∧ G = G' ∧ ahi y1 ey1) :=
 aki H hT

theorem ahr (p0 : Int) (p1 : Int) (y0 : ByteArray) (H : Ly p0 p1 = some y0) (K : Kp) (G : List Ent) (hT : TabK K) :
  Fc Tryz.prog 64 #[(.int .u64 p0), (.int .i64 p1)] K (G) (fun v K' G' => v = (.string y0) ∧ K = K' ∧ G = G') :=
 amQ H hT


end Go.Hx
