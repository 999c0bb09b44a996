
import Derived.Test.YtcopfjjpiobclaaGreatDoorXSM
import Derived.Test.YtcopfjjpiobclaaGreatDoorXSShelf
namespace Go.Hx
open Go Go.Proofs
set_option linter.unusedSimpArgs false
set_option linter.unusedVariables false
set_option maxRecDepth 10000
theorem ak4 (p0 : ByteArray) (p1 : ByteArray) (y0 : ByteArray) (y1 : ByteArray) (y2 : Bool) (H : afH p0 p1 = some (y0, y1, y2)) (K : Kp) (G : List Ent) (hT : TabK K) :
  Fc Tryz.prog 26 #[(.string p0), (.string p1)] K (G) (fun v K' G' => v = (.tuple #[(.string y0), (.string y1), (.bool y2)]) ∧ K = K' ∧ G = G') :=
 amP H hT

theorem amd (p0 : ByteArray) (p1 : ByteArray) (y0 : ByteArray) (y1 : Bool) (H : aeN p0 p1 = some (y0, y1)) (K : Kp) (G : List Ent) (hT : TabK K) :
  Fc Tryz.prog 50 #[(.string p0), (.string p1)] K (G) (fun v K' G' => v = (.tuple #[(.string y0), (.bool y1)]) ∧ K = K' ∧ G = G') :=
 ajD H hT

theorem ahp (p0 : ByteArray) (p1 : ByteArray) (y0 : List ByteArray) (H : Lt p0 p1 = some y0) (K : Kp) (G : List Ent) (hT : TabK K) :
  Fc Tryz.prog 51 #[(.string p0), (.string p1)] K (G) (fun v K' G' => ∃ (wy0 : SV) (rswy0 : List (List Value)), v = (sv wy0) ∧ K = K' ∧ (.row (sv wy0) 9 1 rswy0.flatten) :: G = G' ∧ RowR Ty.str K' rswy0 y0) :=
 akj H hT

theorem akI (p0 : List ByteArray) (vp0 : SV) (rsp0 : List (List Value)) (p1 : ByteArray) (y0 : ByteArray) (H : L0 p0 p1 = some y0) (K : Kp) (G : List Ent) (hp0 : RowR Ty.str K rsp0 p0) :
  Fc Tryz.prog 65 #[(sv vp0), (.string p1)] K ((.row (sv vp0) 9 1 rsp0.flatten) :: G) (fun v K' G' => v = (.string y0) ∧ K = K' ∧ (.row (sv vp0) 9 1 rsp0.flatten) :: G = G') :=
 al2 H hp0


end Go.Hx
