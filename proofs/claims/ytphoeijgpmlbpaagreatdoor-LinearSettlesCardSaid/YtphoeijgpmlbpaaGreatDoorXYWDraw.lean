
import Derived.Test.YtphoeijgpmlbpaaGreatDoorXYM
import Derived.Test.YtphoeijgpmlbpaaGreatDoorXYShelf
set_option linter.unusedVariables false
set_option linter.unusedSimpArgs false
namespace Go.Hx
open Go Go.Proofs
set_option maxRecDepth 10000
set_option maxHeartbeats 1000000
theorem DK (p0 : ad2) (g : SV) (p1 : Int) (e : fg) (H : ri p0 p1 = some e) (K : Kp) (G : List Ent) (f : Slr Ty.u8 K (sv g) p0) :
  Fc Tryz.prog 18 #[(sv g), (Vi p1)] K (G) (fun v b h => ∃ (j : Nat) (l : SV), v = (Vp j) ∧ K = b ∧ (.blk j 99 (fE e l)) :: G = h ∧ Slr Ty.u8 b (sv l) e.list) := by
 refine fN Tryz.func18 Z Tryz.ntmps18 Tryz.results18 Z ?_
 unfold ri at H
 refine fc<|fa<|Ea Z<|fb<|?_
 refine fz (fun m b h => ∃ (a : SV) (d : ad2), [(0, (sv a))] = m ∧ K = b ∧ G = h ∧ vR d = some e ∧ Slr Ty.u8 b (sv a) d) ?_ ?_
 ·refine fc<|fa<|Em Z<|Eq Z (ge (T := Ty.u8) f Z Z)<|Em Z<|Ec Z<|fb<|?_
  refine fm Z ?_ ?_
  ·intro c
   obtain ⟨c, H⟩ := It c H
   refine fa<|Em Z<|Em Z<|?_
   obtain ⟨x17, k, H⟩ := bnd H
   have o := Slr.cut f k
   exact Eq Z (pi (T := Ty.u8) f k Z Z Z Z)<|Ea Z<|fb<|Sd<|⟨_, by exact R1, (iR g 1 0 p1.toNat), x17, Z, Z, Z, H, o⟩
  ·intro c
   obtain ⟨c, H⟩ := If c H
   exact ft<|Sd<|⟨_, by exact R1, g, p0, Z, Z, Z, H, f⟩
 rintro _ _ _ - ⟨a, d, rfl, rfl, rfl, H, n⟩
 unfold vR at H
 refine fc<|fa<|Em Z<|Eq Z (fG (cs := (fE (fg.mk d 0 0) a)) Z Z Z Z Z Z)<|?_
 refine fe Z (fU (cs := (fE (fg.mk d 0 0) a)) Z Z Z (fun i => ?_))
 refine Ea Z<|fb<|fx<|?_
 obtain p := gq H
 subst e
 refine ⟨(.inl Z), [(Vp i)], ⟨(Vp i), _, Z, Z, Z⟩, ?_⟩
 exact Sd ⟨i, a, Z, Z, Z, n⟩
theorem tK (b : Nat) (p0 : fg) (a : SV) (c : Bool) (H : oj p0 = some c) (K : Kp) (G : List Ent) (f : Slr Ty.u8 K (sv a) p0.list) :
  Fc Tryz.prog 22 #[(Vp b)] K ((.blk b 99 (fE p0 a)) :: G) (fun v e d => v = (.bool c) ∧ K = e ∧ (.blk b 99 (fE p0 a)) :: G = d) := by
 refine fN Tryz.func22 Z Tryz.ntmps22 Tryz.results22 Z ?_
 unfold oj at H
 refine fc<|fa<|Ea Z<|fb<|fc<|fw _ Z (Ic Mb0 In0)<|Jm 0 Z<|Jq 1 Z (fC Z)<|JF 2 1 Z<|Jl 3 (Vi p0.at_) Z (Rb0 Z)<|Jm 4 Z<|Jq 5 Z (fC Z)<|JF 6 0 Z<|Jl 7 (sv a) Z (Rb0 Z)<|Jq 8 Z (ge (T := Ty.u8) f Z Z)<|Jc 9 Z<|Ja 10 Z<|Ad<|fx<|?_
 obtain g := gq H
 subst c
 refine ⟨(.inl Z), [(.bool (dcd (p0.at_ < (p0.list.length : Int))))], ⟨(.bool (dcd (p0.at_ < (p0.list.length : Int)))), _, Z, Z, Z⟩, ?_⟩
 exact Sd ⟨Z, Z, Z⟩
theorem jd (d : Nat) (p0 : fg) (b : SV) (p1 e f : Int) (H : k9 p0 p1 = some (e, f)) (K : Kp) (G : List Ent) (g : Slr Ty.u8 K (sv b) p0.list) :
  Fc Tryz.prog 23 #[(Vp d), (Vi p1)] K ((.blk d 99 (fE p0 b)) :: G) (fun v m l => v = (Vi e) ∧ K = m ∧ (.blk d 99 (fE (fg.mk p0.list f p0.value) b)) :: G = l) := by
 refine fN Tryz.func23 Z Tryz.ntmps23 Tryz.results23 Z ?_
 unfold k9 at H
 refine fc<|fa<|Ea Z<|fb<|fc<|fc<|fa<|Em Z<|?_
 obtain ⟨x17, q, H⟩ := bnd H
 refine fe Z (Ek Tryz.call22 Z (tK d p0 b x17 q _ _ g) ?_)
 rintro _ _ _ - ⟨rfl, rfl, rfl⟩
 refine Eq Z (gf Z)<|fb<|?_
 refine fm Z ?_ ?_
 ·intro a
  have a := iv a
  have H := f0 (btf a) H
  refine fc<|fa<|Ea Z<|fb<|fx<|?_
  obtain ⟨n, o⟩ := ic H
  subst e f
  refine ⟨(.inl Z), [(Vi 0)], ⟨(Vi 0), _, Z, Z, Z⟩, ?_⟩
  exact Sd ⟨Z, Z, Z⟩
 ·intro a
  have a := ir a
  have H := ift a H
  refine ft<|fc<|fa<|Em Z<|Eq Z (fC Z)<|EF 1 Z<|El (Vi p0.at_) Z (Rb0 Z)<|Er (wI (p0.at_ + 1)) Z<|Eq Z (fC Z)<|EF 1 Z<|?_
  refine fe Z (So [(Vi (wI (p0.at_ + 1)))] (fE (fg.mk p0.list (wI (p0.at_ + 1)) p0.value) b) Z .here Z ?_)
  refine fb<|fc<|?_
  obtain ⟨i, h, H⟩ := bnd H
  obtain ⟨j, r, H⟩ := bnd H
  refine fw _ Z (Ic Mb0 In0)<|Jm 0 Z<|Jq 1 Z (fC Z)<|JF 2 0 Z<|Jl 3 (sv b) Z (Rb0 Z)<|Jm 4 Z<|Jq 5 Z (fC Z)<|JF 6 1 Z<|Jl 7 (Vi (wI (p0.at_ + 1))) Z (Rb0 Z)<|Jr 8 (wI ((wI (p0.at_ + 1)) - 1)) Z<|?_
  obtain ⟨_, rfl, p⟩ := Slr.at g h
  refine Jq 9 Z (Qi (T := Ty.u8) g h Z)<|Jl 10 (.int .u8 i) Z (Rdc.k p Z)<|Jq 11 Z (kD (c := wI i) Z Z Z Z)<|Jm 12 Z<|Jq 13 Z (Dj r Z Z)<|Ja 14 Z<|Ad<|fx<|?_
  obtain ⟨n, o⟩ := ic H
  subst e f
  refine ⟨(.inl Z), [(Vi j)], ⟨(Vi j), _, Z, Z, Z⟩, ?_⟩
  exact Sd ⟨Z, Z, Z⟩
theorem FK (a : Nat) (p0 : fg) (h : SV) (w : fQ) (D E : Int) (H : sT p0 = some (w, D, E)) (K : Kp) (G : List Ent) (aH : Slr Ty.u8 K (sv h) p0.list) :
  Fc Tryz.prog 19 #[(Vp a)] K ((.blk a 99 (fE p0 h)) :: G) (fun v f s => ∃ (az aA : SV), v = (.agg (fq w az aA).toArray) ∧ (.blk a 99 (fE (fg.mk p0.list D E) h)) :: (.tok 3 1 [(sv az)]) :: (.tok 36 1 [(sv aA)]) :: G = s ∧ Slr Ty.i64 f (sv az) w.capacities ∧ Slr Ty.u64 f (sv aA) w.starts) := by
 refine fN Tryz.func19 Z Tryz.ntmps19 Tryz.results19 Z ?_
 unfold sT at H
 refine fc<|fa<|?_
 refine fe Z (fD (cs := (fq (fQ.mk [] [] 0) fB fB)) Z Z Z Z (fun x => ?_))
 refine fb<|fc<|fa<|?_
 have ai : RowR Ty.i64 K [[(Vi 0)], [(Vi 1)], [(Vi 2)], [(Vi 0)], [(Vi 1)], [(Vi 3)]] [0, 1, 2, 0, 1, 3] := RowR.cons Z (RowR.cons Z (RowR.cons Z (RowR.cons Z (RowR.cons Z (RowR.cons Z (RowR.nil))))))
 refine fe Z (gh (T := Ty.i64) (rows := [[(Vi 0)], [(Vi 1)], [(Vi 2)], [(Vi 0)], [(Vi 1)], [(Vi 3)]]) (l := [0, 1, 2, 0, 1, 3]) Z Z Z ai Z Z Z Z Z Z Z Z (fun F => ?_))
 refine Ea Z<|fb<|fc<|fa<|?_
 have aj : RowR Ty.u64 K [[(.int .u64 0)], [(.int .u64 1)], [(.int .u64 9223372036854775807)], [(.int .u64 9223372036854775806)], [(.int .u64 4611686018427387904)], [(.int .u64 5)]] [0, 1, 9223372036854775807, 9223372036854775806, 4611686018427387904, 5] := RowR.cons Z (RowR.cons Z (RowR.cons Z (RowR.cons Z (RowR.cons Z (RowR.cons Z (RowR.nil))))))
 refine fe Z (gh (T := Ty.u64) (rows := [[(.int .u64 0)], [(.int .u64 1)], [(.int .u64 9223372036854775807)], [(.int .u64 9223372036854775806)], [(.int .u64 4611686018427387904)], [(.int .u64 5)]]) (l := [0, 1, 9223372036854775807, 9223372036854775806, 4611686018427387904, 5]) Z Z Z aj Z Z Z Z Z Z Z Z (fun I => ?_))
 refine Ea Z<|fb<|fc<|fa<|?_
 refine fe Z (fD (cs := (fq (fQ.mk [] [] 0) fB fB)) Z Z Z Z (fun y => ?_))
 refine fb ?_
 refine fz (fun B f s => ∃ (ac ad : Int) (i : SV) (m : ad2) (j : SV) (n : ad2), [(0, (Vp a)), (2, (Vp x)), (5, (Vp y))] = B ∧ (.blk a 99 (fE (fg.mk p0.list ac ad) h)) :: (.blk y 27 (fq (fQ.mk m n 0) i j)) :: (.blk x 27 (fq (fQ.mk [] [] 0) fB fB)) :: (.tok 3 1 [(sv i)]) :: (.tok 36 1 [(sv j)]) :: G = s ∧ rj p0 ac ad m n = some (w, D, E) ∧ Slr Ty.i64 f (sv i) m ∧ Slr Ty.u64 f (sv j) n) ?_ ?_
 ·refine fc<|fa<|Ea Z<|fb<|fA<|?_
  refine fY (fun aP B f s => ∃ (t b c : Int) (A : SV) (P : ad2) (g : SV) (o : ad2), [(0, (Vp a)), (2, (Vp x)), (3, (sv F)), (4, (sv I)), (5, (Vp y)), (6, (Vi t))] = B ∧ (.blk a 99 (fE (fg.mk p0.list b c) h)) :: (.blk y 27 (fq (fQ.mk P o 0) A g)) :: (.blk x 27 (fq (fQ.mk [] [] 0) fB fB)) :: (.tok 3 1 [(sv A)]) :: (.tok 36 1 [(sv g)]) :: (.row (sv I) 36 1 [[(.int .u64 0)], [(.int .u64 1)], [(.int .u64 9223372036854775807)], [(.int .u64 9223372036854775806)], [(.int .u64 4611686018427387904)], [(.int .u64 5)]].flatten) :: (.row (sv F) 3 1 [[(Vi 0)], [(Vi 1)], [(Vi 2)], [(Vi 0)], [(Vi 1)], [(Vi 3)]].flatten) :: G = s ∧ lp5 (rn p0) aP t b c P o = some (w, D, E) ∧ Slr Ty.i64 f (sv A) P ∧ Slr Ty.u64 f (sv g) o) BIG ?_ ?_
  ·exact Shift.nilTok1 3 1<|Shift.nilTok1 36 1<|Pu4<|Pu4<|Pu2<|Pu3<|Pu5<|Pu5<|Pu6<|Sd<|⟨_, by exact R6, 0, p0.at_, p0.value, fB, ([] : ad2), fB, ([] : ad2), Z, Z, H, (Slr.nil Ty.i64 _), (Slr.nil Ty.u64 _)⟩
  rintro aP _ ag _ N ⟨t, b, c, A, P, g, o, rfl, rfl, H, X, Y⟩
  obtain ⟨bE, aO, rfl, aW, H⟩ := FV H
  unfold rn at H
  refine fc<|fc<|fa<|Em Z<|Em Z<|?_
  obtain ⟨bn, k, bl, H⟩ := iw H
  have O := aH.mono N
  refine fe Z (Ek Tryz.call23 Z (jd a (fg.mk p0.list b c) h 3 bn k bl _ _ O) ?_)
  rintro _ _ _ - ⟨rfl, rfl, rfl⟩
  refine Ec Z<|fb<|?_
  refine fm Z ?_ ?_
  ·intro M
   obtain ⟨M, H⟩ := It M H
   refine ft ?_
   refine fz (fun B f s => ∃ (ae af : Int) (S : SV) (Q : ad2) (U : SV) (R : ad2), [(0, (Vp a)), (2, (Vp x)), (3, (sv F)), (4, (sv I)), (5, (Vp y)), (6, (Vi t))] = B ∧ (.blk a 99 (fE (fg.mk p0.list ae af) h)) :: (.blk y 27 (fq (fQ.mk Q R 0) S U)) :: (.blk x 27 (fq (fQ.mk [] [] 0) fB fB)) :: (.tok 3 1 [(sv S)]) :: (.tok 36 1 [(sv U)]) :: (.row (sv I) 36 1 [[(.int .u64 0)], [(.int .u64 1)], [(.int .u64 9223372036854775807)], [(.int .u64 9223372036854775806)], [(.int .u64 4611686018427387904)], [(.int .u64 5)]].flatten) :: (.row (sv F) 3 1 [[(Vi 0)], [(Vi 1)], [(Vi 2)], [(Vi 0)], [(Vi 1)], [(Vi 3)]].flatten) :: G = s ∧ rk t p0 aO ae af Q R = some (w, D, E) ∧ Slr Ty.i64 f (sv S) Q ∧ Slr Ty.u64 f (sv U) R) ?_ ?_
   ·refine fA ?_
    refine fz (fun B f s => ∃ (z : Int) (r : SV) (p : ad2), [(0, (Vp a)), (2, (Vp x)), (3, (sv F)), (4, (sv I)), (5, (Vp y)), (6, (Vi t))] = B ∧ (.blk a 99 (fE (fg.mk p0.list z ((fg.mk p0.list k ((fg.mk p0.list b c).value)).value)) h)) :: (.blk y 27 (fq (fQ.mk p o 0) r g)) :: (.blk x 27 (fq (fQ.mk [] [] 0) fB fB)) :: (.tok 3 1 [(sv r)]) :: (.tok 36 1 [(sv g)]) :: (.row (sv I) 36 1 [[(.int .u64 0)], [(.int .u64 1)], [(.int .u64 9223372036854775807)], [(.int .u64 9223372036854775806)], [(.int .u64 4611686018427387904)], [(.int .u64 5)]].flatten) :: (.row (sv F) 3 1 [[(Vi 0)], [(Vi 1)], [(Vi 2)], [(Vi 0)], [(Vi 1)], [(Vi 3)]].flatten) :: G = s ∧ rm t p0 k b c o aO z p = some (w, D, E) ∧ Slr Ty.i64 f (sv r) p) ?_ ?_
    ·obtain ⟨aR, W, aN, H⟩ := iw H
     obtain ⟨e, ab, H⟩ := bnd H
     obtain ⟨L, aq, H⟩ := bnd H
     refine fw _ Z (Ic Mb2 (Ic Mb4 (Ic Mb5 (Ic Mb6 In0))))<|JF 0 0 Z<|Jm 2 Z<|Jm 3 Z<|?_
     refine gW 1 4 (by kernel_rfl) ?_ ?_
     ·refine id (Jyq Z (gr (v := (sv A)) Z Z Z (Rb1 Z)) ⟨(Ic Mb2 (Ic Mb4 (Ic Mb5 (Ic Mb6 In0)))), ?_⟩)
      refine Ao 4 Z ?_
      refine Ek Tryz.call23 Z (jd a (fg.mk p0.list k ((fg.mk p0.list b c).value)) h 6 aR W aN _ _ O) ?_
      rintro _ _ _ - ⟨rfl, rfl, rfl⟩
      refine ⟨(Ic Mb2 (Ic Mb4 (Ic Mb5 (Ic Mb6 In0)))), ?_⟩
      have an := ai.mono N
      obtain ⟨bH, aK, aZ⟩ := RowR.at an ab
      obtain rfl := aZ
      refine Jq 5 Z (gP (T := Ty.i64) Mb3 an aK (fR ab).1 Z Z Z Z Z)<|Jl 6 (Vi e) Z (ib (T := Ty.i64) Mb3 an aK Z Z)<|?_
      refine Ao 7 Z ?_
      have aE : RowR Ty.i64 ag [[(Vi e)]] [e] := RowR.cons Z (RowR.nil)
      refine gh (T := Ty.i64) (rows := [[(Vi e)]]) (l := [e]) Z Z Z aE Z Z Z Z Z Z Z Z (fun bM => ⟨(Ic Mb3 (Ic Mb5 (Ic Mb6 (Ic Mb7 In0)))), ?_⟩)
      refine Ao 8 Z ?_
      refine f8 (T := Ty.i64) (bytes := 8) (q := 0) Z Z Z X Mb4 Z (SrcT.row Mb0 aE Z) aq Z Z Z Z Z Z Z Z (fun aw bt bB bh => ⟨_, (.there (.there (.there (.there .here)))), ⟨(Ic Mb3 (Ic Mb5 (Ic Mb6 (Ic Mb7 In0)))), ?_⟩⟩)
      refine Aw.shift (Re0 (Sd ⟨(Ic Mb2 (Ic Mb4 (Ic Mb5 (Ic Mb6 In0)))), ?_⟩))
      refine JF 9 0 Z ?_
      refine Ao 10 Z ?_
      refine So [(sv aw)] (fq (fQ.mk L o 0) aw g) Z (.there .here) Z ⟨(Ic Mb2 (Ic Mb4 (Ic Mb5 (Ic Mb6 In0)))), ?_⟩
      exact Ad<|Pu6<|Pu6<|Pu6<|Pu6<|Pu6<|Pu6<|Pu6<|Sd<|⟨_, by exact R6, W, aw, L, Z, Z, H, bh⟩
     ·refine id (Jy Z ?_)
      refine Ek Tryz.call23 Z (jd a (fg.mk p0.list k ((fg.mk p0.list b c).value)) h 6 aR W aN _ _ O) ?_
      rintro _ _ _ - ⟨rfl, rfl, rfl⟩
      refine ⟨(Ic Mb2 (Ic Mb4 (Ic Mb5 (Ic Mb6 In0)))), ?_⟩
      have ao := ai.mono N
      obtain ⟨bI, aL, a0⟩ := RowR.at ao ab
      obtain rfl := a0
      refine Jq 5 Z (gP (T := Ty.i64) Mb3 ao aL (fR ab).1 Z Z Z Z Z)<|Jl 6 (Vi e) Z (ib (T := Ty.i64) Mb3 ao aL Z Z)<|?_
      refine gW 1 7 (by kernel_rfl) ?_ ?_
      ·refine id (Jyq Z (gr (v := (sv A)) Z Z Z (Rb1 Z)) ⟨(Ic Mb2 (Ic Mb4 (Ic Mb5 (Ic Mb6 In0)))), ?_⟩)
       refine Ao 7 Z ?_
       have aF : RowR Ty.i64 ag [[(Vi e)]] [e] := RowR.cons Z (RowR.nil)
       refine gh (T := Ty.i64) (rows := [[(Vi e)]]) (l := [e]) Z Z Z aF Z Z Z Z Z Z Z Z (fun bN => ⟨(Ic Mb3 (Ic Mb5 (Ic Mb6 (Ic Mb7 In0)))), ?_⟩)
       refine Ao 8 Z ?_
       refine f8 (T := Ty.i64) (bytes := 8) (q := 0) Z Z Z X Mb4 Z (SrcT.row Mb0 aF Z) aq Z Z Z Z Z Z Z Z (fun ax bu bC bi => ⟨_, (.there (.there (.there (.there .here)))), ⟨(Ic Mb3 (Ic Mb5 (Ic Mb6 (Ic Mb7 In0)))), ?_⟩⟩)
       refine Aw.shift (Re0 (Sd ⟨(Ic Mb2 (Ic Mb4 (Ic Mb5 (Ic Mb6 In0)))), ?_⟩))
       refine JF 9 0 Z ?_
       refine Ao 10 Z ?_
       refine So [(sv ax)] (fq (fQ.mk L o 0) ax g) Z (.there .here) Z ⟨(Ic Mb2 (Ic Mb4 (Ic Mb5 (Ic Mb6 In0)))), ?_⟩
       exact Ad<|Pu6<|Pu6<|Pu6<|Pu6<|Pu6<|Pu6<|Pu6<|Sd<|⟨_, by exact R6, W, ax, L, Z, Z, H, bi⟩
      ·refine id (Jy Z ?_)
       have aG : RowR Ty.i64 ag [[(Vi e)]] [e] := RowR.cons Z (RowR.nil)
       refine gh (T := Ty.i64) (rows := [[(Vi e)]]) (l := [e]) Z Z Z aG Z Z Z Z Z Z Z Z (fun bO => ⟨(Ic Mb3 (Ic Mb5 (Ic Mb6 (Ic Mb7 In0)))), ?_⟩)
       refine gB 1 (by kernel_rfl) (Jyq Z (gr (v := (sv A)) Z Z Z (Rb2 Z)) ⟨(Ic Mb3 (Ic Mb5 (Ic Mb6 (Ic Mb7 In0)))), ?_⟩)
       refine Ao 8 Z ?_
       refine f8 (T := Ty.i64) (bytes := 8) (q := 0) Z Z Z X Mb4 Z (SrcT.row Mb0 aG Z) aq Z Z Z Z Z Z Z Z (fun ay bv bD bj => ⟨_, (.there (.there (.there (.there .here)))), ⟨(Ic Mb3 (Ic Mb5 (Ic Mb6 (Ic Mb7 In0)))), ?_⟩⟩)
       refine Aw.shift (Re0 (Sd ⟨(Ic Mb2 (Ic Mb4 (Ic Mb5 (Ic Mb6 In0)))), ?_⟩))
       refine JF 9 0 Z ?_
       refine Ao 10 Z ?_
       refine So [(sv ay)] (fq (fQ.mk L o 0) ay g) Z (.there .here) Z ⟨(Ic Mb2 (Ic Mb4 (Ic Mb5 (Ic Mb6 In0)))), ?_⟩
       exact Ad<|Pu6<|Pu6<|Pu6<|Pu6<|Pu6<|Pu6<|Pu6<|Sd<|⟨_, by exact R6, W, ay, L, Z, Z, H, bj⟩
    rintro _ ah _ C ⟨z, r, p, rfl, rfl, H, am⟩
    unfold rm at H
    obtain ⟨aQ, V, aM, H⟩ := iw H
    obtain ⟨d, aa, H⟩ := bnd H
    obtain ⟨J, ap, H⟩ := bnd H
    refine fw _ Z (Ic Mb2 (Ic Mb3 (Ic Mb5 (Ic Mb6 In0))))<|JF 0 1 Z<|Jm 2 Z<|Jm 3 Z<|?_
    refine gW 1 4 (by kernel_rfl) ?_ ?_
    ·refine id (Jyq Z (gr (v := (sv g)) Z Z Z (Rb1 Z)) ⟨(Ic Mb2 (Ic Mb3 (Ic Mb5 (Ic Mb6 In0)))), ?_⟩)
     refine Ao 4 Z ?_
     have a1 := O.mono C
     refine Ek Tryz.call23 Z (jd a (fg.mk p0.list z ((fg.mk p0.list k ((fg.mk p0.list b c).value)).value)) h 6 aQ V aM _ _ a1) ?_
     rintro _ _ _ - ⟨rfl, rfl, rfl⟩
     refine ⟨(Ic Mb2 (Ic Mb3 (Ic Mb5 (Ic Mb6 In0)))), ?_⟩
     have ak := (aj.mono N).mono C
     obtain ⟨bF, aI, aX⟩ := RowR.at ak aa
     obtain rfl := aX
     refine Jq 5 Z (gP (T := Ty.u64) Mb2 ak aI (fR aa).1 Z Z Z Z Z)<|Jl 6 (.int .u64 d) Z (ib (T := Ty.u64) Mb2 ak aI Z Z)<|?_
     refine Ao 7 Z ?_
     have aB : RowR Ty.u64 ah [[(.int .u64 d)]] [d] := RowR.cons Z (RowR.nil)
     refine gh (T := Ty.u64) (rows := [[(.int .u64 d)]]) (l := [d]) Z Z Z aB Z Z Z Z Z Z Z Z (fun bJ => ⟨(Ic Mb3 (Ic Mb4 (Ic Mb6 (Ic Mb7 In0)))), ?_⟩)
     refine Ao 8 Z ?_
     have a3 := Y.mono C
     refine f8 (T := Ty.u64) (bytes := 8) (q := 0) Z Z Z a3 Mb5 Z (SrcT.row Mb0 aB Z) ap Z Z Z Z Z Z Z Z (fun ar bo aS a2 => ⟨_, (.there (.there (.there (.there (.there .here))))), ⟨(Ic Mb3 (Ic Mb4 (Ic Mb6 (Ic Mb7 In0)))), ?_⟩⟩)
     refine Aw.shift (Re0 (Sd ⟨(Ic Mb2 (Ic Mb3 (Ic Mb5 (Ic Mb6 In0)))), ?_⟩))
     refine JF 9 1 Z ?_
     refine Ao 10 Z ?_
     refine So [(sv ar)] (fq (fQ.mk p J 0) r ar) Z (.there .here) Z ⟨(Ic Mb2 (Ic Mb3 (Ic Mb5 (Ic Mb6 In0)))), ?_⟩
     refine Ad<|Pu6<|Pu6<|Pu6<|Pu6<|Pu6<|Pu6<|Pu6<|?_
     have a4 := am.mono aS
     exact Sd ⟨_, by exact R6, V, ((fg.mk p0.list z ((fg.mk p0.list k ((fg.mk p0.list b c).value)).value)).value), r, p, ar, J, Z, Z, H, a4, a2⟩
    ·refine id (Jy Z ?_)
     have a5 := O.mono C
     refine Ek Tryz.call23 Z (jd a (fg.mk p0.list z ((fg.mk p0.list k ((fg.mk p0.list b c).value)).value)) h 6 aQ V aM _ _ a5) ?_
     rintro _ _ _ - ⟨rfl, rfl, rfl⟩
     refine ⟨(Ic Mb2 (Ic Mb3 (Ic Mb5 (Ic Mb6 In0)))), ?_⟩
     have al := (aj.mono N).mono C
     obtain ⟨bG, aJ, aY⟩ := RowR.at al aa
     obtain rfl := aY
     refine Jq 5 Z (gP (T := Ty.u64) Mb2 al aJ (fR aa).1 Z Z Z Z Z)<|Jl 6 (.int .u64 d) Z (ib (T := Ty.u64) Mb2 al aJ Z Z)<|?_
     refine gW 1 7 (by kernel_rfl) ?_ ?_
     ·refine id (Jyq Z (gr (v := (sv g)) Z Z Z (Rb1 Z)) ⟨(Ic Mb2 (Ic Mb3 (Ic Mb5 (Ic Mb6 In0)))), ?_⟩)
      refine Ao 7 Z ?_
      have aC : RowR Ty.u64 ah [[(.int .u64 d)]] [d] := RowR.cons Z (RowR.nil)
      refine gh (T := Ty.u64) (rows := [[(.int .u64 d)]]) (l := [d]) Z Z Z aC Z Z Z Z Z Z Z Z (fun bK => ⟨(Ic Mb3 (Ic Mb4 (Ic Mb6 (Ic Mb7 In0)))), ?_⟩)
      refine Ao 8 Z ?_
      have a7 := Y.mono C
      refine f8 (T := Ty.u64) (bytes := 8) (q := 0) Z Z Z a7 Mb5 Z (SrcT.row Mb0 aC Z) ap Z Z Z Z Z Z Z Z (fun au bp aT a6 => ⟨_, (.there (.there (.there (.there (.there .here))))), ⟨(Ic Mb3 (Ic Mb4 (Ic Mb6 (Ic Mb7 In0)))), ?_⟩⟩)
      refine Aw.shift (Re0 (Sd ⟨(Ic Mb2 (Ic Mb3 (Ic Mb5 (Ic Mb6 In0)))), ?_⟩))
      refine JF 9 1 Z ?_
      refine Ao 10 Z ?_
      refine So [(sv au)] (fq (fQ.mk p J 0) r au) Z (.there .here) Z ⟨(Ic Mb2 (Ic Mb3 (Ic Mb5 (Ic Mb6 In0)))), ?_⟩
      refine Ad<|Pu6<|Pu6<|Pu6<|Pu6<|Pu6<|Pu6<|Pu6<|?_
      have a8 := am.mono aT
      exact Sd ⟨_, by exact R6, V, ((fg.mk p0.list z ((fg.mk p0.list k ((fg.mk p0.list b c).value)).value)).value), r, p, au, J, Z, Z, H, a8, a6⟩
     ·refine id (Jy Z ?_)
      have aD : RowR Ty.u64 ah [[(.int .u64 d)]] [d] := RowR.cons Z (RowR.nil)
      refine gh (T := Ty.u64) (rows := [[(.int .u64 d)]]) (l := [d]) Z Z Z aD Z Z Z Z Z Z Z Z (fun bL => ⟨(Ic Mb3 (Ic Mb4 (Ic Mb6 (Ic Mb7 In0)))), ?_⟩)
      refine gB 1 (by kernel_rfl) (Jyq Z (gr (v := (sv g)) Z Z Z (Rb2 Z)) ⟨(Ic Mb3 (Ic Mb4 (Ic Mb6 (Ic Mb7 In0)))), ?_⟩)
      refine Ao 8 Z ?_
      have ba := Y.mono C
      refine f8 (T := Ty.u64) (bytes := 8) (q := 0) Z Z Z ba Mb5 Z (SrcT.row Mb0 aD Z) ap Z Z Z Z Z Z Z Z (fun av bq aU a9 => ⟨_, (.there (.there (.there (.there (.there .here))))), ⟨(Ic Mb3 (Ic Mb4 (Ic Mb6 (Ic Mb7 In0)))), ?_⟩⟩)
      refine Aw.shift (Re0 (Sd ⟨(Ic Mb2 (Ic Mb3 (Ic Mb5 (Ic Mb6 In0)))), ?_⟩))
      refine JF 9 1 Z ?_
      refine Ao 10 Z ?_
      refine So [(sv av)] (fq (fQ.mk p J 0) r av) Z (.there .here) Z ⟨(Ic Mb2 (Ic Mb3 (Ic Mb5 (Ic Mb6 In0)))), ?_⟩
      refine Ad<|Pu6<|Pu6<|Pu6<|Pu6<|Pu6<|Pu6<|Pu6<|?_
      have bb := am.mono aU
      exact Sd ⟨_, by exact R6, V, ((fg.mk p0.list z ((fg.mk p0.list k ((fg.mk p0.list b c).value)).value)).value), r, p, av, J, Z, Z, H, bb, a9⟩
   rintro _ br _ bA ⟨ae, af, S, Q, U, R, rfl, rfl, H, bf, bg⟩
   unfold rk at H
   exact fa<|Em Z<|Er (wI (t + 1)) Z<|Ea Z<|fb<|Pu6<|Pu6<|Pu6<|Pu6<|Pu6<|Pu6<|Pu6<|Sd<|⟨_, by exact R6, _, Nat.lt_succ_self _, (wI (t + 1)), ae, af, S, Q, U, R, Z, Z, (aW ▸ H), bf, bg⟩
  ·intro M
   obtain ⟨M, H⟩ := If M H
   exact f5<|Pu4<|Pu4<|Pu4<|Pu4<|Pu4<|Re5<|Re5<|Sd<|⟨_, by exact R3, k, ((fg.mk p0.list b c).value), A, P, g, o, Z, Z, H, X, Y⟩
 rintro _ bs _ aV ⟨ac, ad, i, m, j, n, rfl, rfl, H, bd, be⟩
 unfold rj at H
 refine fc<|fa<|Em Z<|?_
 obtain ⟨u, bm, bk, H⟩ := iw H
 have bc := aH.mono aV
 refine fe Z (Ek Tryz.call23 Z (jd a (fg.mk p0.list ac ad) h 3 u bm bk _ _ bc) ?_)
 rintro _ _ _ - ⟨rfl, rfl, rfl⟩
 refine Er (wI (2 + u)) Z<|EF 2 Z<|?_
 refine fe Z (So [(Vi (wI (2 + u)))] (fq (fQ.mk m n (wI (2 + u))) i j) Z (.there .here) Z ?_)
 refine fb<|fc<|fa<|EL 3 (fq (fQ.mk m n (wI (2 + u))) i j) Z (Rb1 Z)<|?_
 refine fe Z (Sa (fq (fQ.mk m n (wI (2 + u))) i j) Z (.there (.there .here)) Z ?_)
 refine fb<|fx<|?_
 obtain ⟨bw, bx, bz⟩ := jq H
 subst w D E
 refine ⟨(.inl Z), [(.agg (fq (fQ.mk m n (wI (2 + u))) i j).toArray)], ⟨(.agg (fq (fQ.mk m n (wI (2 + u))) i j).toArray), _, Z, ⟨_, 3, (fq (fQ.mk m n (wI (2 + u))) i j), Z, Z, Z, Z, ⟨Z, Rb2 Z⟩, Z⟩, Z⟩, ?_⟩
 exact Pu4<|Pu4<|Pu2<|Re3<|Re3<|Sd<|⟨i, j, Z, Z, bd, be⟩
theorem kE (a : Nat) (p0 : fg) (b : SV) (p1 : fQ) (e k : SV) (f g h : Int) (H : mr p0 p1 = some (f, g, h)) (K : Kp) (G : List Ent) (j : Slr Ty.u8 K (sv b) p0.list) (q : Slr Ty.i64 K (sv e) p1.capacities) (B : Slr Ty.u64 K (sv k) p1.starts) :
  Fc Tryz.prog 70 #[(Vp a), (.agg (fq p1 e k).toArray)] K ((.blk a 99 (fE p0 b)) :: G) (fun v s r => v = (Vi f) ∧ K = s ∧ (.blk a 99 (fE (fg.mk p0.list g h) b)) :: G = r) := by
 refine fN Tryz.func70 Z Tryz.ntmps70 Tryz.results70 Z ?_
 unfold mr at H
 refine fc<|fa<|?_
 refine fe Z (fU (cs := (fq p1 e k)) Z Z Z (fun A => ?_))
 refine Ea Z<|fb<|fc<|fc<|fa<|Em Z<|?_
 obtain ⟨x, l, t, H⟩ := iw H
 refine Ow.shift (Pu1 (Sd ?_))
 refine fe Z (Ek Tryz.call23 Z (jd a p0 b 16 x l t _ _ j) ?_)
 rintro _ _ _ - ⟨rfl, rfl, rfl⟩
 refine Ec Z<|fb<|?_
 refine fm Z ?_ ?_
 ·intro c
  obtain ⟨c, H⟩ := It c H
  refine fc<|fa<|Em Z<|?_
  obtain ⟨i, y, u, H⟩ := iw H
  refine fe Z (Ek Tryz.call23 Z (jd a (fg.mk p0.list l p0.value) b 9 i y u _ _ j) ?_)
  rintro _ _ _ - ⟨rfl, rfl, rfl⟩
  refine Er (wI (i - 1)) Z<|Ea Z<|fb<|fx<|?_
  obtain ⟨n, o, p⟩ := jq H
  subst f g h
  refine ⟨(.inl Z), [(Vi (wI (i - 1)))], ⟨(Vi (wI (i - 1))), _, Z, Z, Z⟩, ?_⟩
  exact Re1<|Sd<|⟨Z, Z, Z⟩
 ·intro c
  obtain ⟨c, H⟩ := If c H
  refine ft<|fc<|fc<|fa<|EF 0 Z<|El (sv e) Z (Rb1 Z)<|Eq Z (ge (T := Ty.i64) q Z Z)<|Ec Z<|fb<|?_
  refine fm Z ?_ ?_
  ·intro d
   obtain ⟨d, H⟩ := It d H
   refine fc<|fa<|Ea Z<|fb<|fx<|?_
   obtain ⟨n, o, p⟩ := jq H
   subst f g h
   refine ⟨(.inl Z), [(Vi (-1))], ⟨(Vi (-1)), _, Z, Z, Z⟩, ?_⟩
   exact Re1<|Sd<|⟨Z, Z, Z⟩
  ·intro d
   obtain ⟨d, H⟩ := If d H
   refine ft<|fc<|fa<|Em Z<|EF 0 Z<|El (sv e) Z (Rb1 Z)<|Eq Z (ge (T := Ty.i64) q Z Z)<|?_
   obtain ⟨m, z, w, H⟩ := iw H
   refine fe Z (Ek Tryz.call23 Z (jd a (fg.mk p0.list l p0.value) b (p1.capacities.length : Int) m z w _ _ j) ?_)
   rintro _ _ _ - ⟨rfl, rfl, rfl⟩
   refine Ea Z<|fb<|fx<|?_
   obtain ⟨n, o, p⟩ := jq H
   subst f g h
   refine ⟨(.inl Z), [(Vi m)], ⟨(Vi m), _, Z, Z, Z⟩, ?_⟩
   exact Re1<|Sd<|⟨Z, Z, Z⟩
theorem yX (b : Nat) (p0 : fg) (a : SV) (c d : Int) (H : rp p0 = some (c, d)) (K : Kp) (G : List Ent) (i : Slr Ty.u8 K (sv a) p0.list) :
  Fc Tryz.prog 71 #[(Vp b)] K ((.blk b 99 (fE p0 a)) :: G) (fun v f e => v = (.int .u64 c) ∧ K = f ∧ (.blk b 99 (fE (fg.mk p0.list p0.at_ d) a)) :: G = e) := by
 refine fN Tryz.func71 Z Tryz.ntmps71 Tryz.results71 Z ?_
 unfold rp at H
 refine fc<|fa<|Ea Z<|fb<|fc<|fa<|Em Z<|Eq Z (fC Z)<|EF 2 Z<|El (.int .u64 p0.value) Z (Rb0 Z)<|Er (wU (p0.value + 1)) Z<|Eq Z (fC Z)<|EF 2 Z<|?_
 refine fe Z (So [(.int .u64 (wU (p0.value + 1)))] (fE (fg.mk p0.list p0.at_ (wU (p0.value + 1))) a) Z .here Z ?_)
 refine fb<|fc<|fa<|Em Z<|Eq Z (fC Z)<|EF 2 Z<|El (.int .u64 (wU (p0.value + 1))) Z (Rb0 Z)<|Ea Z<|fb<|fx<|?_
 obtain ⟨g, h⟩ := ic H
 subst c d
 refine ⟨(.inl Z), [(.int .u64 (wU (p0.value + 1)))], ⟨(.int .u64 (wU (p0.value + 1))), _, Z, Z, Z⟩, ?_⟩
 exact Sd ⟨Z, Z, Z⟩
theorem xB (c : Nat) (p0 : fg) (j : SV) (p1 : Op) (a b : SV) (l : Op) (r s : Int) (H : mw p0 p1 = some (l, r, s)) (K : Kp) (G : List Ent) (D : Slr Ty.u8 K (sv j) p0.list) (J : Slr fW K (sv a) p1.cases) (L : Slr Ty.i64 K (sv b) p1.draws) :
  Fc Tryz.prog 69 #[(Vp c), (.agg (fj p1 a b).toArray)] K ((.blk c 99 (fE p0 j)) :: G) (fun v i n => ∃ (E F : SV), v = (.agg (fj l E F).toArray) ∧ K = i ∧ (.blk c 99 (fE (fg.mk p0.list r s) j)) :: G = n ∧ Slr fW i (sv E) l.cases ∧ Slr Ty.i64 i (sv F) l.draws) := by
 refine fN Tryz.func69 Z Tryz.ntmps69 Tryz.results69 Z ?_
 unfold mw at H
 refine fc<|fa<|?_
 refine fe Z (fU (cs := (fj p1 a b)) Z Z Z (fun t => ?_))
 refine fe Z (fD (cs := (fj (Op.mk 0 0 0 0 0 [] []) fB fB)) Z Z Z Z (fun u => ?_))
 refine fb ?_
 refine fz (fun x i n => ∃ (z A : Int) (m B : Int) (d e : Int) (f g h : Int), [(3, (Vp t)), (4, (Vp u))] = x ∧ K = i ∧ (.blk c 99 (fE (fg.mk p0.list z A) j)) :: (.blk u 51 (fj (Op.mk m m m B m [] []) fB fB)) :: (.blk t 51 (fj (Op.mk d e f g h p1.cases p1.draws) a b)) :: G = n ∧ lE p0 p1 z A m B d e f g h = some (l, r, s)) ?_ ?_
 ·refine fc<|fa<|Em Z<|?_
  obtain ⟨q, k, M, H⟩ := iw H
  refine Ow.shift (Pu2 (Sd ?_))
  refine fe Z (Ek Tryz.call23 Z (jd c p0 j 8 q k M _ _ D) ?_)
  rintro _ _ _ - ⟨rfl, rfl, rfl⟩
  refine fb<|fA<|?_
  refine fz (fun x i n => ∃ (C : Bool), [(0, (Vp c)), (3, (Vp t)), (4, (Vp u)), (6, (Vi q)), (7, (.bool C))] = x ∧ K = i ∧ (.blk c 99 (fE (fg.mk p0.list k p0.value) j)) :: (.blk u 51 (fj (Op.mk 0 0 0 0 0 [] []) fB fB)) :: (.blk t 51 (fj p1 a b)) :: G = n ∧ pH q p0 k p1 C = some (l, r, s)) ?_ ?_
  ·refine fc<|fa<|Ec Z<|Ea Z<|fb<|?_
   refine fm Z ?_ ?_
   ·intro o
    obtain ⟨o, H⟩ := It o H
    exact ft<|Pu2<|Pu2<|Pu2<|Sd<|⟨_, by exact R5, (dcd (q = 5)), Z, Z, Z, H⟩
   ·intro o
    obtain ⟨o, H⟩ := If o H
    exact fa<|Ec Z<|Ea Z<|fb<|Pu2<|Pu2<|Pu2<|Sd<|⟨_, by exact R5, (dcd (q = 6)), Z, Z, Z, H⟩
  rintro _ _ _ - ⟨C, rfl, rfl, rfl, H⟩
  unfold pH at H
  refine fm Z ?_ ?_
  ·intro y
   have H := ift y H
   refine fa<|EF 1 Z<|?_
   refine fe rfl (So [(Vi 1)] (fj (Op.mk p1.kind 1 p1.channel p1.value p1.deadline p1.cases p1.draws) a b) Z (.there (.there .here)) Z ?_)
   exact fb<|Pu2<|Pu2<|Pu2<|Sd<|⟨_, by exact R2, k, p0.value, 0, 0, p1.kind, 1, p1.channel, p1.value, p1.deadline, Z, Z, Z, H⟩
  ·intro y
   have H := f0 (btf y) H
   refine fc<|fa<|Ec Z<|Ea Z<|fb<|?_
   refine fm Z ?_ ?_
   ·intro p
    obtain ⟨p, H⟩ := It p H
    refine fa<|Em Z<|?_
    obtain ⟨w, I, N, H⟩ := iw H
    refine fe Z (Ek Tryz.call23 Z (jd c (fg.mk p0.list k p0.value) j 5 w I N _ _ D) ?_)
    rintro _ _ _ - ⟨rfl, rfl, rfl⟩
    refine EF 1 Z ?_
    refine fe rfl (So [(Vi 2)] (fj (Op.mk p1.kind 2 p1.channel p1.value p1.deadline p1.cases p1.draws) a b) Z (.there (.there .here)) Z ?_)
    refine EF 4 Z ?_
    refine fe rfl (So [(Vi w)] (fj (Op.mk p1.kind 2 p1.channel p1.value w p1.cases p1.draws) a b) Z (.there (.there .here)) Z ?_)
    exact fb<|Pu2<|Pu2<|Pu2<|Sd<|⟨_, by exact R2, I, ((fg.mk p0.list k p0.value).value), 0, 0, p1.kind, 2, p1.channel, p1.value, w, Z, Z, Z, H⟩
   ·intro p
    obtain ⟨p, H⟩ := If p H
    exact ft<|Pu2<|Pu2<|Pu2<|Sd<|⟨_, by exact R2, k, p0.value, 0, 0, p1.kind, p1.mode, p1.channel, p1.value, p1.deadline, Z, Z, Z, H⟩
 rintro _ _ _ - ⟨z, A, m, B, d, e, f, g, h, rfl, rfl, rfl, H⟩
 unfold lE at H
 refine fc<|fa<|EL 7 (fj (Op.mk d e f g h p1.cases p1.draws) a b) Z (Rb2 Z)<|?_
 refine fe rfl (Sa (fj (Op.mk d e f g h p1.cases p1.draws) a b) Z (.there .here) Z ?_)
 refine fb<|fx<|?_
 obtain ⟨O, P, Q⟩ := jq H
 subst l r s
 refine ⟨(.inl rfl), [(.agg (fj (Op.mk d e f g h p1.cases p1.draws) a b).toArray)], ⟨(.agg (fj (Op.mk d e f g h p1.cases p1.draws) a b).toArray), _, rfl, ⟨_, 7, (fj (Op.mk d e f g h p1.cases p1.draws) a b), rfl, rfl, rfl, rfl, ⟨rfl, Rb1 Z⟩, rfl⟩, rfl⟩, ?_⟩
 exact Re1<|Re1<|Sd<|⟨a, b, Z, Z, Z, J, L⟩
theorem FD (a : Nat) (p0 : fg) (b : SV) (p1 : fQ) (k m : SV) (p2 : Int) (w : Op) (F I : Int) (H : mY p0 p1 p2 = some (w, F, I)) (K : Kp) (G : List Ent) (aI : Slr Ty.u8 K (sv b) p0.list) (av : Slr Ty.i64 K (sv k) p1.capacities) (aw : Slr Ty.u64 K (sv m) p1.starts) :
  Fc Tryz.prog 72 #[(Vp a), (.agg (fq p1 k m).toArray), (Vi p2)] K ((.blk a 99 (fE p0 b)) :: G) (fun v c i => ∃ (aN aO : SV), v = (.agg (fj w aN aO).toArray) ∧ (.blk a 99 (fE (fg.mk p0.list F I) b)) :: G = i ∧ Slr fW c (sv aN) w.cases ∧ Slr Ty.i64 c (sv aO) w.draws) := by
 refine fN Tryz.func72 Z Tryz.ntmps72 Tryz.results72 Z ?_
 unfold mY at H
 refine fc<|fa<|?_
 refine fe Z (fU (cs := (fq p1 k m)) Z Z Z (fun A => ?_))
 refine fe Z (fD (cs := (fj (Op.mk 0 0 0 0 0 [] []) fB fB)) Z Z Z Z (fun o => ?_))
 refine fb<|fc<|fa<|Eq Z (fG (cs := (fj (Op.mk 4 0 0 0 0 [] []) fB fB)) Z Z Z Z Z Z)<|?_
 refine fe Z (fD (cs := (fj (Op.mk 0 0 0 0 0 [] []) fB fB)) Z Z Z Z (fun p => ?_))
 refine fe Z (Sa (fj (Op.mk 4 0 0 0 0 [] []) fB fB) Z .here Z ?_)
 refine fb ?_
 refine fz (fun x c i => ∃ (al am : Int) (R : SV) (P : af5) (S : SV) (Q : ad2), [(0, (Vp a)), (6, (Vp o)), (7, (Vp p))] = x ∧ (.blk a 99 (fE (fg.mk p0.list al am) b)) :: (.blk p 51 (fj (Op.mk 4 0 0 0 0 P Q) R S)) :: (.blk o 51 (fj (Op.mk 0 0 0 0 0 [] []) fB fB)) :: (.tok 108 3 [(sv R)]) :: (.tok 3 1 [(sv S)]) :: G = i ∧ ol p0 al am P Q = some (w, F, I) ∧ Slr fW c (sv R) P ∧ Slr Ty.i64 c (sv S) Q) ?_ ?_
 ·refine fc<|fa<|Ea Z<|fb<|fA<|?_
  refine fY (fun aM x c i => ∃ (d r s : Int) (u : SV) (z : af5) (f : SV) (t : ad2), [(0, (Vp a)), (2, (Vi p2)), (4, (Vp A)), (6, (Vp o)), (7, (Vp p)), (8, (Vi d))] = x ∧ (.blk a 99 (fE (fg.mk p0.list r s) b)) :: (.blk p 51 (fj (Op.mk 4 0 0 0 0 z t) u f)) :: (.blk o 51 (fj (Op.mk 0 0 0 0 0 [] []) fB fB)) :: (.blk A 27 (fq p1 k m)) :: (.tok 108 3 [(sv u)]) :: (.tok 3 1 [(sv f)]) :: G = i ∧ lp5 (oq p2 p0 p1) aM d r s z t = some (w, F, I) ∧ Slr fW c (sv u) z ∧ Slr Ty.i64 c (sv f) t) BIG ?_ ?_
  ·exact Shift.nilTok1 108 3<|Shift.nilTok1 3 1<|Pu1<|Pu4<|Pu4<|Pu4<|Pu5<|Sd<|⟨_, by exact R6, 0, p0.at_, p0.value, fB, ([] : af5), fB, ([] : ad2), Z, Z, H, (Slr.nil fW _), (Slr.nil Ty.i64 _)⟩
  rintro aM _ aq _ J ⟨d, r, s, u, z, f, t, rfl, rfl, H, aJ, ak⟩
  obtain ⟨bD, aA, rfl, aX, H⟩ := FV H
  unfold oq at H
  refine fc<|fc<|fa<|Em Z<|Em Z<|Em Z<|Er (wI (p2 + 1)) Z<|?_
  obtain ⟨bq, L, bm, H⟩ := iw H
  have y := aI.mono J
  refine fe Z (Ek Tryz.call23 Z (jd a (fg.mk p0.list r s) b (wI (p2 + 1)) bq L bm _ _ y) ?_)
  rintro _ _ _ - ⟨rfl, rfl, rfl⟩
  refine Ec Z<|fb<|?_
  refine fm Z ?_ ?_
  ·intro Y
   obtain ⟨Y, H⟩ := It Y H
   refine ft ?_
   refine fz (fun x c i => ∃ (an ao : Int) (ad : SV) (ab : af5) (ae : SV) (ac : ad2), [(0, (Vp a)), (2, (Vi p2)), (4, (Vp A)), (6, (Vp o)), (7, (Vp p)), (8, (Vi d))] = x ∧ (.blk a 99 (fE (fg.mk p0.list an ao) b)) :: (.blk p 51 (fj (Op.mk 4 0 0 0 0 ab ac) ad ae)) :: (.blk o 51 (fj (Op.mk 0 0 0 0 0 [] []) fB fB)) :: (.blk A 27 (fq p1 k m)) :: (.tok 108 3 [(sv ad)]) :: (.tok 3 1 [(sv ae)]) :: G = i ∧ om p2 d p0 p1 aA an ao ab ac = some (w, F, I) ∧ Slr fW c (sv ad) ab ∧ Slr Ty.i64 c (sv ae) ac) ?_ ?_
   ·refine fA ?_
    refine fz (fun x c i => ∃ (X : Nat) (N O : Int) (g : Bool) (j : Int), [(0, (Vp a)), (2, (Vi p2)), (4, (Vp A)), (6, (Vp o)), (7, (Vp p)), (8, (Vi d)), (9, (Vp X))] = x ∧ aq = c ∧ (.blk a 99 (fE (fg.mk p0.list N O) b)) :: (.blk X 108 (fl (Case.mk g j 0))) :: (.blk p 51 (fj (Op.mk 4 0 0 0 0 z t) u f)) :: (.blk o 51 (fj (Op.mk 0 0 0 0 0 [] []) fB fB)) :: (.blk A 27 (fq p1 k m)) :: (.tok 108 3 [(sv u)]) :: (.tok 3 1 [(sv f)]) :: G = i ∧ oo p2 d p0 z t p1 aA N O g j = some (w, F, I)) ?_ ?_
    ·obtain ⟨n, ah, aK, H⟩ := iw H
     obtain ⟨h, U, V, ay, H⟩ := j7 H
     refine fw _ Z (Ic Mb1 (Ic Mb2 (Ic Mb3 (Ic Mb4 (Ic Mb5 In0)))))<|Jm 0 Z<|Jm 3 Z<|JL 4 3 (fq p1 k m) Z (Rb2 Z)<|?_
     refine gW 1 7 (by kernel_rfl) ?_ ?_
     ·refine id (Jy Z ?_)
      refine Ek Tryz.call23 Z (jd a (fg.mk p0.list L ((fg.mk p0.list r s).value)) b 2 n ah aK _ _ y) ?_
      rintro _ _ _ - ⟨rfl, rfl, rfl⟩
      refine ⟨(Ic Mb1 (Ic Mb2 (Ic Mb3 (Ic Mb4 (Ic Mb5 In0))))), ?_⟩
      refine Jc 2 Z ?_
      refine gW 5 7 (by kernel_rfl) ?_ ?_
      ·refine id (Jy Z ?_)
       have a2 := av.mono J
       have a3 := aw.mono J
       refine Ek Tryz.call70 Z (kE a (fg.mk p0.list ah ((fg.mk p0.list L ((fg.mk p0.list r s).value)).value)) b p1 k m h U V ay _ _ y a2 a3) ?_
       rintro _ _ _ - ⟨rfl, rfl, rfl⟩
       refine ⟨(Ic Mb1 (Ic Mb2 (Ic Mb3 (Ic Mb4 (Ic Mb5 In0))))), ?_⟩
       refine Jq 6 Z (fG (cs := (fl (Case.mk (dcd (n = 1)) h 0))) Z Z Z Z Z Z) ?_
       refine Ao 7 Z ?_
       refine fD (cs := (fl (Case.mk false 0 0))) Z Z Z Z (fun aQ => ⟨(Ic Mb2 (Ic Mb3 (Ic Mb4 (Ic Mb5 (Ic Mb6 In0))))), ?_⟩)
       refine Ao 8 Z ?_
       refine Sa (fl (Case.mk (dcd (n = 1)) h 0)) Z .here Z ⟨(Ic Mb2 (Ic Mb3 (Ic Mb4 (Ic Mb5 (Ic Mb6 In0))))), ?_⟩
       exact Ad<|Pu6<|Pu6<|Pu6<|Pu6<|Pu6<|Pu5<|Pu6<|Sd<|⟨_, by exact R7, aQ, U, V, (dcd (n = 1)), h, Z, Z, Z, H⟩
      ·refine id (Jy Z ?_)
       refine fD (cs := (fl (Case.mk false 0 0))) Z Z Z Z (fun aR => ⟨(Ic Mb2 (Ic Mb3 (Ic Mb4 (Ic Mb5 (Ic Mb6 In0))))), ?_⟩)
       refine Ao 5 Z ?_
       refine OpW.shift (Pu1 (Sd ?_))
       have a4 := av.mono J
       have a5 := aw.mono J
       refine Ek Tryz.call70 Z (kE a (fg.mk p0.list ah ((fg.mk p0.list L ((fg.mk p0.list r s).value)).value)) b p1 k m h U V ay _ _ y a4 a5) ?_
       rintro _ _ _ - ⟨rfl, rfl, rfl⟩
       refine ⟨(Ic Mb2 (Ic Mb3 (Ic Mb4 (Ic Mb5 (Ic Mb6 In0))))), ?_⟩
       refine Jq 6 Z (fG (cs := (fl (Case.mk (dcd (n = 1)) h 0))) Z Z Z Z Z Z) ?_
       refine Ao 8 Z ?_
       refine Sa (fl (Case.mk (dcd (n = 1)) h 0)) Z (.there .here) Z ⟨(Ic Mb2 (Ic Mb3 (Ic Mb4 (Ic Mb5 (Ic Mb6 In0))))), ?_⟩
       exact Ad<|Pu6<|Pu6<|Pu6<|Pu6<|Pu6<|Pu6<|Pu6<|Sd<|⟨_, by exact R7, aR, U, V, (dcd (n = 1)), h, Z, Z, Z, H⟩
     ·refine id (Jy Z ?_)
      refine fD (cs := (fl (Case.mk false 0 0))) Z Z Z Z (fun aS => ⟨(Ic Mb2 (Ic Mb3 (Ic Mb4 (Ic Mb5 (Ic Mb6 In0))))), ?_⟩)
      refine Ao 1 Z ?_
      refine OpW.shift (Pu1 (Sd ?_))
      refine Ek Tryz.call23 Z (jd a (fg.mk p0.list L ((fg.mk p0.list r s).value)) b 2 n ah aK _ _ y) ?_
      rintro _ _ _ - ⟨rfl, rfl, rfl⟩
      refine ⟨(Ic Mb2 (Ic Mb3 (Ic Mb4 (Ic Mb5 (Ic Mb6 In0))))), ?_⟩
      refine Jc 2 Z ?_
      refine Ao 5 Z ?_
      have a6 := av.mono J
      have a7 := aw.mono J
      refine Ek Tryz.call70 Z (kE a (fg.mk p0.list ah ((fg.mk p0.list L ((fg.mk p0.list r s).value)).value)) b p1 k m h U V ay _ _ y a6 a7) ?_
      rintro _ _ _ - ⟨rfl, rfl, rfl⟩
      refine ⟨(Ic Mb2 (Ic Mb3 (Ic Mb4 (Ic Mb5 (Ic Mb6 In0))))), ?_⟩
      refine Jq 6 Z (fG (cs := (fl (Case.mk (dcd (n = 1)) h 0))) Z Z Z Z Z Z) ?_
      refine Ao 8 Z ?_
      refine Sa (fl (Case.mk (dcd (n = 1)) h 0)) Z (.there .here) Z ⟨(Ic Mb2 (Ic Mb3 (Ic Mb4 (Ic Mb5 (Ic Mb6 In0))))), ?_⟩
      exact Ad<|Pu6<|Pu6<|Pu6<|Pu6<|Pu6<|Pu6<|Pu6<|Sd<|⟨_, by exact R7, aS, U, V, (dcd (n = 1)), h, Z, Z, Z, H⟩
    rintro _ _ _ - ⟨X, N, O, g, j, rfl, rfl, rfl, H⟩
    unfold oo at H
    refine fz (fun x c i => ∃ (B C D : Int), [(0, (Vp a)), (2, (Vi p2)), (4, (Vp A)), (6, (Vp o)), (7, (Vp p)), (8, (Vi d)), (9, (Vp X))] = x ∧ aq = c ∧ (.blk a 99 (fE (fg.mk p0.list B C) b)) :: (.blk X 108 (fl (Case.mk g j D))) :: (.blk p 51 (fj (Op.mk 4 0 0 0 0 z t) u f)) :: (.blk o 51 (fj (Op.mk 0 0 0 0 0 [] []) fB fB)) :: (.blk A 27 (fq p1 k m)) :: (.tok 108 3 [(sv u)]) :: (.tok 3 1 [(sv f)]) :: G = i ∧ my p2 d p0 g j z t p1 aA B C D = some (w, F, I)) ?_ ?_
    ·refine fc<|fa<|EF 0 Z<|El (.bool g) Z (Rb1 Z)<|fb<|?_
     refine fm Z ?_ ?_
     ·intro au
      have H := ift au H
      refine fa<|Em Z<|?_
      obtain ⟨ap, aP, bn, H⟩ := iw H
      refine fe Z (Ek Tryz.call71 Z (yX a (fg.mk p0.list N O) b ap aP bn _ _ y) ?_)
      rintro _ _ _ - ⟨rfl, rfl, rfl⟩
      refine EF 2 Z ?_
      refine fe Z (So [(.int .u64 ap)] (fl (Case.mk g j ap)) Z (.there .here) Z ?_)
      exact fb<|Pu6<|Pu6<|Pu6<|Pu6<|Pu6<|Pu6<|Pu6<|Sd<|⟨_, by exact R7, ((fg.mk p0.list N O).at_), aP, ap, Z, Z, Z, H⟩
     ·intro au
      have H := f0 (btf au) H
      exact ft<|Pu6<|Pu6<|Pu6<|Pu6<|Pu6<|Pu6<|Pu6<|Sd<|⟨_, by exact R7, N, O, 0, Z, Z, Z, H⟩
    rintro _ _ _ - ⟨B, C, D, rfl, rfl, rfl, H⟩
    unfold my at H
    refine fc<|fa<|EF 5 Z<|El (sv u) Z (Rb2 Z)<|EL 3 (fl (Case.mk g j D)) Z (Rb1 Z)<|?_
    have aE : RowR fW aq [(fl (Case.mk g j D))] [(Case.mk g j D)] := RowR.cons Z (RowR.nil)
    refine fe Z (gh (T := fW) (rows := [(fl (Case.mk g j D))]) (l := [(Case.mk g j D)]) Z Z Z aE Z Z Z Z Z Z Z Z (fun bE => ?_))
    obtain ⟨M, bo, H⟩ := bnd H
    refine fe Z (f8 (T := fW) (bytes := 24) (q := 0) Z Z Z aJ Mb6 Z (SrcT.row Mb0 aE Z) bo Z Z Z Z Z Z Z Z (fun E ar aa ax => ⟨_, (.there (.there (.there (.there (.there (.there .here)))))), ?_⟩))
    refine Ow.shift (Re0 (Sd ?_))
    refine EF 5 Z ?_
    refine fe Z (So [(sv E)] (fj (Op.mk 4 0 0 0 0 M t) E f) Z (.there (.there .here)) Z ?_)
    refine fb ?_
    obtain ⟨e, ai, aL, H⟩ := iw H
    obtain ⟨W, az, H⟩ := bnd H
    refine fw _ Z (Ic Mb1 (Ic Mb3 (Ic Mb4 (Ic Mb5 In0))))<|JF 0 6 Z<|Jm 2 Z<|Jm 3 Z<|Jr 4 (wI (d + 1)) Z<|?_
    refine gW 1 5 (by kernel_rfl) ?_ ?_
    ·refine id (Jyq Z (gr (v := (sv f)) Z Z Z (Rb2 Z)) ⟨(Ic Mb1 (Ic Mb3 (Ic Mb4 (Ic Mb5 In0)))), ?_⟩)
     refine Ao 5 Z ?_
     have a8 := y.mono aa
     refine Ek Tryz.call23 Z (jd a (fg.mk p0.list B C) b (wI (d + 1)) e ai aL _ _ a8) ?_
     rintro _ _ _ - ⟨rfl, rfl, rfl⟩
     refine ⟨(Ic Mb1 (Ic Mb3 (Ic Mb4 (Ic Mb5 In0)))), ?_⟩
     refine Ao 6 Z ?_
     have aF : RowR Ty.i64 ar [[(Vi e)]] [e] := RowR.cons Z (RowR.nil)
     refine gh (T := Ty.i64) (rows := [[(Vi e)]]) (l := [e]) Z Z Z aF Z Z Z Z Z Z Z Z (fun bF => ⟨(Ic Mb2 (Ic Mb4 (Ic Mb5 (Ic Mb6 In0)))), ?_⟩)
     refine Ao 7 Z ?_
     have ba := ak.mono aa
     refine f8 (T := Ty.i64) (bytes := 8) (q := 0) Z Z Z ba Mb7 Z (SrcT.row Mb0 aF Z) az Z Z Z Z Z Z Z Z (fun aB bt aT a9 => ⟨_, (.there (.there (.there (.there (.there (.there (.there .here))))))), ⟨(Ic Mb2 (Ic Mb4 (Ic Mb5 (Ic Mb6 In0)))), ?_⟩⟩)
     refine Aw.shift (Re0 (Sd ⟨(Ic Mb1 (Ic Mb3 (Ic Mb4 (Ic Mb5 In0)))), ?_⟩))
     refine JF 8 6 Z ?_
     refine Ao 9 Z ?_
     refine So [(sv aB)] (fj (Op.mk 4 0 0 0 0 M W) E aB) Z (.there (.there .here)) Z ⟨(Ic Mb1 (Ic Mb3 (Ic Mb4 (Ic Mb5 In0)))), ?_⟩
     refine Ad<|Pu6<|Pu6<|Pu6<|Pu6<|Pu6<|Pu5<|Re6<|?_
     have bb := ax.mono aT
     exact Sd ⟨_, by exact R6, ai, ((fg.mk p0.list B C).value), E, M, aB, W, Z, Z, H, bb, a9⟩
    ·refine id (Jy Z ?_)
     have bc := y.mono aa
     refine Ek Tryz.call23 Z (jd a (fg.mk p0.list B C) b (wI (d + 1)) e ai aL _ _ bc) ?_
     rintro _ _ _ - ⟨rfl, rfl, rfl⟩
     refine ⟨(Ic Mb1 (Ic Mb3 (Ic Mb4 (Ic Mb5 In0)))), ?_⟩
     refine gW 1 6 (by kernel_rfl) ?_ ?_
     ·refine id (Jyq Z (gr (v := (sv f)) Z Z Z (Rb2 Z)) ⟨(Ic Mb1 (Ic Mb3 (Ic Mb4 (Ic Mb5 In0)))), ?_⟩)
      refine Ao 6 Z ?_
      have aG : RowR Ty.i64 ar [[(Vi e)]] [e] := RowR.cons Z (RowR.nil)
      refine gh (T := Ty.i64) (rows := [[(Vi e)]]) (l := [e]) Z Z Z aG Z Z Z Z Z Z Z Z (fun bG => ⟨(Ic Mb2 (Ic Mb4 (Ic Mb5 (Ic Mb6 In0)))), ?_⟩)
      refine Ao 7 Z ?_
      have be := ak.mono aa
      refine f8 (T := Ty.i64) (bytes := 8) (q := 0) Z Z Z be Mb7 Z (SrcT.row Mb0 aG Z) az Z Z Z Z Z Z Z Z (fun aC bu aU bd => ⟨_, (.there (.there (.there (.there (.there (.there (.there .here))))))), ⟨(Ic Mb2 (Ic Mb4 (Ic Mb5 (Ic Mb6 In0)))), ?_⟩⟩)
      refine Aw.shift (Re0 (Sd ⟨(Ic Mb1 (Ic Mb3 (Ic Mb4 (Ic Mb5 In0)))), ?_⟩))
      refine JF 8 6 Z ?_
      refine Ao 9 Z ?_
      refine So [(sv aC)] (fj (Op.mk 4 0 0 0 0 M W) E aC) Z (.there (.there .here)) Z ⟨(Ic Mb1 (Ic Mb3 (Ic Mb4 (Ic Mb5 In0)))), ?_⟩
      refine Ad<|Pu6<|Pu6<|Pu6<|Pu6<|Pu6<|Pu5<|Re6<|?_
      have bf := ax.mono aU
      exact Sd ⟨_, by exact R6, ai, ((fg.mk p0.list B C).value), E, M, aC, W, Z, Z, H, bf, bd⟩
     ·refine id (Jy Z ?_)
      have aH : RowR Ty.i64 ar [[(Vi e)]] [e] := RowR.cons Z (RowR.nil)
      refine gh (T := Ty.i64) (rows := [[(Vi e)]]) (l := [e]) Z Z Z aH Z Z Z Z Z Z Z Z (fun bH => ⟨(Ic Mb2 (Ic Mb4 (Ic Mb5 (Ic Mb6 In0)))), ?_⟩)
      refine gB 1 (by kernel_rfl) (Jyq Z (gr (v := (sv f)) Z Z Z (Rb3 Z)) ⟨(Ic Mb2 (Ic Mb4 (Ic Mb5 (Ic Mb6 In0)))), ?_⟩)
      refine Ao 7 Z ?_
      have bh := ak.mono aa
      refine f8 (T := Ty.i64) (bytes := 8) (q := 0) Z Z Z bh Mb7 Z (SrcT.row Mb0 aH Z) az Z Z Z Z Z Z Z Z (fun aD bv aV bg => ⟨_, (.there (.there (.there (.there (.there (.there (.there .here))))))), ⟨(Ic Mb2 (Ic Mb4 (Ic Mb5 (Ic Mb6 In0)))), ?_⟩⟩)
      refine Aw.shift (Re0 (Sd ⟨(Ic Mb1 (Ic Mb3 (Ic Mb4 (Ic Mb5 In0)))), ?_⟩))
      refine JF 8 6 Z ?_
      refine Ao 9 Z ?_
      refine So [(sv aD)] (fj (Op.mk 4 0 0 0 0 M W) E aD) Z (.there (.there .here)) Z ⟨(Ic Mb1 (Ic Mb3 (Ic Mb4 (Ic Mb5 In0)))), ?_⟩
      refine Ad<|Pu6<|Pu6<|Pu6<|Pu6<|Pu6<|Pu5<|Re6<|?_
      have bi := ax.mono aV
      exact Sd ⟨_, by exact R6, ai, ((fg.mk p0.list B C).value), E, M, aD, W, Z, Z, H, bi, bg⟩
   rintro _ bw _ bC ⟨an, ao, ad, ab, ae, ac, rfl, rfl, H, a0, a1⟩
   unfold om at H
   exact fa<|Em Z<|Er (wI (d + 1)) Z<|Ea Z<|fb<|Pu5<|Pu5<|Pu5<|Pu5<|Pu5<|Pu5<|Sd<|⟨_, by exact R6, _, Nat.lt_succ_self _, (wI (d + 1)), an, ao, ad, ab, ae, ac, Z, Z, (aX ▸ H), a0, a1⟩
  ·intro Y
   obtain ⟨Y, H⟩ := If Y H
   exact f5<|Pu5<|Pu5<|Pu4<|Pu4<|Pu4<|Re5<|Sd<|⟨_, by exact R3, L, ((fg.mk p0.list r s).value), u, z, f, t, Z, Z, H, aJ, ak⟩
 rintro _ bx _ aW ⟨al, am, R, P, S, Q, rfl, rfl, H, aY, aZ⟩
 unfold ol at H
 refine fc<|fa<|Em Z<|EL 7 (fj (Op.mk 4 0 0 0 0 P Q) R S) Z (Rb1 Z)<|?_
 obtain ⟨aj, br, bs, bp, H⟩ := j7 H
 have bj := aI.mono aW
 refine fe Z (Ek Tryz.call69 Z (xB a (fg.mk p0.list al am) b (Op.mk 4 0 0 0 0 P Q) R S aj br bs bp _ _ bj aY aZ) ?_)
 rintro _ _ _ - ⟨af, ag, rfl, rfl, rfl, bk, bl⟩
 refine fe Z (Sa (fj aj af ag) Z (.there (.there .here)) Z ?_)
 refine fb<|fx<|?_
 obtain ⟨bz, bA, bB⟩ := jq H
 subst w F I
 refine ⟨(.inl Z), [(.agg (fj aj af ag).toArray)], ⟨(.agg (fj aj af ag).toArray), _, Z, ⟨_, 7, (fj aj af ag), Z, Z, Z, Z, ⟨Z, Rb2 Z⟩, Z⟩, Z⟩, ?_⟩
 exact Re1<|Re1<|Re1<|Re1<|Sd<|⟨af, ag, Z, Z, bk, bl⟩
theorem xC (c : Nat) (p0 : fg) (d : SV) (p1 : fQ) (a b : SV) (f : Op) (g h : Int) (H : mZ p0 p1 = some (f, g, h)) (K : Kp) (G : List Ent) (e : Slr Ty.u8 K (sv d) p0.list) (j : Slr Ty.i64 K (sv a) p1.capacities) (k : Slr Ty.u64 K (sv b) p1.starts) :
  Fc Tryz.prog 40 #[(Vp c), (.agg (fq p1 a b).toArray)] K ((.blk c 99 (fE p0 d)) :: G) (fun v O U => ∃ (P Q : SV), v = (.agg (fj f P Q).toArray) ∧ (.blk c 99 (fE (fg.mk p0.list g h) d)) :: G = U ∧ Slr fW O (sv P) f.cases ∧ Slr Ty.i64 O (sv Q) f.draws) := by
 refine fN Tryz.func40 Z Tryz.ntmps40 Tryz.results40 Z ?_
 unfold mZ at H
 refine fc<|fa<|?_
 refine fe Z (fU (cs := (fq p1 a b)) Z Z Z (fun aC => ?_))
 refine fe Z (fD (cs := (fj (Op.mk 0 0 0 0 0 [] []) fB fB)) Z Z Z Z (fun aD => ?_))
 refine fb<|fc<|fc<|fa<|Em Z<|?_
 obtain ⟨am, i, ac, H⟩ := iw H
 refine Ow.shift (Pu2 (Sd ?_))
 refine fe Z (Ek Tryz.call23 Z (jd c p0 d 20 am i ac _ _ e) ?_)
 rintro _ _ _ - ⟨rfl, rfl, rfl⟩
 refine Ea Z<|fb<|fA<|fc<|fa<|Em Z<|Ec Z<|Ea Z<|fb<|?_
 refine fm Z ?_ ?_
 ·intro r
  obtain ⟨r, H⟩ := It r H
  refine fc<|fa<|Em Z<|Em Z<|EL 3 (fq p1 a b) Z (Rb2 Z)<|?_
  obtain ⟨I, J, L, ad, H⟩ := j7 H
  refine fe Z (Ek Tryz.call70 Z (kE c (fg.mk p0.list i p0.value) d p1 a b I J L ad _ _ e j k) ?_)
  rintro _ _ _ - ⟨rfl, rfl, rfl⟩
  refine Em Z ?_
  obtain ⟨M, R, ae, H⟩ := iw H
  refine fe Z (Ek Tryz.call71 Z (yX c (fg.mk p0.list J L) d M R ae _ _ e) ?_)
  rintro _ _ _ - ⟨rfl, rfl, rfl⟩
  refine Eq Z (fG (cs := (fj (Op.mk 1 0 I M 0 [] []) fB fB)) Z Z Z Z Z Z) ?_
  obtain ⟨D, an, ao, af, H⟩ := j7 H
  refine fe Z (Ek Tryz.call69 Z (xB c (fg.mk p0.list ((fg.mk p0.list J L).at_) R) d (Op.mk 1 0 I M 0 [] []) fB fB D an ao af _ _ e (Slr.nil fW _) (Slr.nil Ty.i64 _)) ?_)
  rintro _ _ _ - ⟨x, y, rfl, rfl, rfl, V, W⟩
  refine fe Z (Sa (fj D x y) Z (.there .here) Z ?_)
  refine fb<|fx<|?_
  obtain ⟨o, p, q⟩ := jq H
  subst f g h
  refine ⟨(.inl Z), [(.agg (fj D x y).toArray)], ⟨(.agg (fj D x y).toArray), _, Z, ⟨_, 7, (fj D x y), Z, Z, Z, Z, ⟨Z, Rb1 Z⟩, Z⟩, Z⟩, ?_⟩
  exact Re1<|Re1<|Sd<|⟨x, y, Z, Z, V, W⟩
 ·intro r
  obtain ⟨r, H⟩ := If r H
  refine fc<|fa<|Em Z<|Ec Z<|Ea Z<|fb<|?_
  refine fm Z ?_ ?_
  ·intro s
   obtain ⟨s, H⟩ := It s H
   refine fc<|fa<|Em Z<|Em Z<|EL 3 (fq p1 a b) Z (Rb2 Z)<|?_
   obtain ⟨N, S, T, ag, H⟩ := j7 H
   refine fe Z (Ek Tryz.call70 Z (kE c (fg.mk p0.list i p0.value) d p1 a b N S T ag _ _ e j k) ?_)
   rintro _ _ _ - ⟨rfl, rfl, rfl⟩
   refine Eq Z (fG (cs := (fj (Op.mk 2 0 N 0 0 [] []) fB fB)) Z Z Z Z Z Z) ?_
   obtain ⟨E, ap, aq, ah, H⟩ := j7 H
   refine fe Z (Ek Tryz.call69 Z (xB c (fg.mk p0.list S T) d (Op.mk 2 0 N 0 0 [] []) fB fB E ap aq ah _ _ e (Slr.nil fW _) (Slr.nil Ty.i64 _)) ?_)
   rintro _ _ _ - ⟨z, A, rfl, rfl, rfl, X, Y⟩
   refine fe Z (Sa (fj E z A) Z (.there .here) Z ?_)
   refine fb<|fx<|?_
   obtain ⟨o, p, q⟩ := jq H
   subst f g h
   refine ⟨(.inl Z), [(.agg (fj E z A).toArray)], ⟨(.agg (fj E z A).toArray), _, Z, ⟨_, 7, (fj E z A), Z, Z, Z, Z, ⟨Z, Rb1 Z⟩, Z⟩, Z⟩, ?_⟩
   exact Re1<|Re1<|Sd<|⟨z, A, Z, Z, X, Y⟩
  ·intro s
   obtain ⟨s, H⟩ := If s H
   refine fc<|fa<|Em Z<|Ec Z<|Ea Z<|fb<|?_
   refine fm Z ?_ ?_
   ·intro t
    obtain ⟨t, H⟩ := It t H
    refine fc<|fa<|Em Z<|EL 3 (fq p1 a b) Z (Rb2 Z)<|?_
    obtain ⟨F, ar, au, ai, H⟩ := j7 H
    refine fe Z (Ek Tryz.call72 Z (FD c (fg.mk p0.list i p0.value) d p1 a b 4 F ar au ai _ _ e j k) ?_)
    rintro _ aB _ aE ⟨B, C, rfl, rfl, aa, ab⟩
    refine fe Z (Sa (fj F B C) Z (.there .here) Z ?_)
    refine fb<|fx<|?_
    obtain ⟨o, p, q⟩ := jq H
    subst f g h
    refine ⟨(.inl Z), [(.agg (fj F B C).toArray)], ⟨(.agg (fj F B C).toArray), _, Z, ⟨_, 7, (fj F B C), Z, Z, Z, Z, ⟨Z, Rb1 Z⟩, Z⟩, Z⟩, ?_⟩
    exact Re1<|Re1<|Sd<|⟨B, C, Z, Z, aa, ab⟩
   ·intro t
    obtain ⟨t, H⟩ := If t H
    refine fc<|fa<|Em Z<|Ec Z<|Ea Z<|fb<|?_
    refine fm Z ?_ ?_
    ·intro u
     obtain ⟨u, H⟩ := It u H
     refine fc<|fa<|Em Z<|EL 3 (fq p1 a b) Z (Rb2 Z)<|?_
     obtain ⟨l, av, aw, aj, H⟩ := j7 H
     refine fe Z (Ek Tryz.call70 Z (kE c (fg.mk p0.list i p0.value) d p1 a b l av aw aj _ _ e j k) ?_)
     rintro _ _ _ - ⟨rfl, rfl, rfl⟩
     refine Eq Z (fG (cs := (fj (Op.mk 3 0 l 0 0 [] []) fB fB)) Z Z Z Z Z Z) ?_
     refine fe Z (Sa (fj (Op.mk 3 0 l 0 0 [] []) fB fB) Z (.there .here) Z ?_)
     refine fb<|fx<|?_
     obtain ⟨o, p, q⟩ := jq H
     subst f g h
     refine ⟨(.inl Z), [(.agg (fj (Op.mk 3 0 l 0 0 [] []) fB fB).toArray)], ⟨(.agg (fj (Op.mk 3 0 l 0 0 [] []) fB fB).toArray), _, Z, ⟨_, 7, (fj (Op.mk 3 0 l 0 0 [] []) fB fB), Z, Z, Z, Z, ⟨Z, Rb1 Z⟩, Z⟩, Z⟩, ?_⟩
     exact Re1<|Re1<|Sd<|⟨fB, fB, Z, Z, (Slr.nil fW _), (Slr.nil Ty.i64 _)⟩
    ·intro u
     obtain ⟨u, H⟩ := If u H
     refine fc<|fa<|Em Z<|Ec Z<|Ea Z<|fb<|?_
     refine fm Z ?_ ?_
     ·intro w
      obtain ⟨w, H⟩ := It w H
      refine fc<|fa<|Em Z<|EL 3 (fq p1 a b) Z (Rb2 Z)<|?_
      obtain ⟨m, ax, ay, ak, H⟩ := j7 H
      refine fe Z (Ek Tryz.call70 Z (kE c (fg.mk p0.list i p0.value) d p1 a b m ax ay ak _ _ e j k) ?_)
      rintro _ _ _ - ⟨rfl, rfl, rfl⟩
      refine Eq Z (fG (cs := (fj (Op.mk 5 0 m 0 0 [] []) fB fB)) Z Z Z Z Z Z) ?_
      refine fe Z (Sa (fj (Op.mk 5 0 m 0 0 [] []) fB fB) Z (.there .here) Z ?_)
      refine fb<|fx<|?_
      obtain ⟨o, p, q⟩ := jq H
      subst f g h
      refine ⟨(.inl Z), [(.agg (fj (Op.mk 5 0 m 0 0 [] []) fB fB).toArray)], ⟨(.agg (fj (Op.mk 5 0 m 0 0 [] []) fB fB).toArray), _, Z, ⟨_, 7, (fj (Op.mk 5 0 m 0 0 [] []) fB fB), Z, Z, Z, Z, ⟨Z, Rb1 Z⟩, Z⟩, Z⟩, ?_⟩
      exact Re1<|Re1<|Sd<|⟨fB, fB, Z, Z, (Slr.nil fW _), (Slr.nil Ty.i64 _)⟩
     ·intro w
      obtain ⟨w, H⟩ := If w H
      refine ft<|fc<|fa<|Em Z<|EL 3 (fq p1 a b) Z (Rb2 Z)<|?_
      obtain ⟨n, az, aA, al, H⟩ := j7 H
      refine fe Z (Ek Tryz.call70 Z (kE c (fg.mk p0.list i p0.value) d p1 a b n az aA al _ _ e j k) ?_)
      rintro _ _ _ - ⟨rfl, rfl, rfl⟩
      refine Eq Z (fG (cs := (fj (Op.mk 6 0 n 0 0 [] []) fB fB)) Z Z Z Z Z Z) ?_
      refine fe Z (Sa (fj (Op.mk 6 0 n 0 0 [] []) fB fB) Z (.there .here) Z ?_)
      refine fb<|fx<|?_
      obtain ⟨o, p, q⟩ := jq H
      subst f g h
      refine ⟨(.inl Z), [(.agg (fj (Op.mk 6 0 n 0 0 [] []) fB fB).toArray)], ⟨(.agg (fj (Op.mk 6 0 n 0 0 [] []) fB fB).toArray), _, Z, ⟨_, 7, (fj (Op.mk 6 0 n 0 0 [] []) fB fB), Z, Z, Z, Z, ⟨Z, Rb1 Z⟩, Z⟩, Z⟩, ?_⟩
      exact Re1<|Re1<|Sd<|⟨fB, fB, Z, Z, (Slr.nil fW _), (Slr.nil Ty.i64 _)⟩
theorem FG (e : Nat) (p0 : fg) (g : SV) (p1 : fQ) (j k : SV) (p2 : Int) (D : ae8) (E F : Int) (H : m3 p0 p1 p2 = some (D, E, F)) (K : Kp) (G : List Ent) (a3 : Slr Ty.u8 K (sv g) p0.list) (az : Slr Ty.i64 K (sv j) p1.capacities) (aA : Slr Ty.u64 K (sv k) p1.starts) :
  Fc Tryz.prog 20 #[(Vp e), (.agg (fq p1 j k).toArray), (Vi p2)] K ((.blk e 99 (fE p0 g)) :: G) (fun v n m => ∃ (be : SV) (bc : List (List Value)), v = (sv be) ∧ (.blk e 99 (fE (fg.mk p0.list E F) g)) :: (.row (sv be) 52 1 bc.flatten) :: G = m ∧ RowR (Ty.sl gR) n bc D) := by
 refine fN Tryz.func20 Z Tryz.ntmps20 Tryz.results20 Z ?_
 unfold m3 at H
 refine fc<|fa<|?_
 refine fe Z (fU (cs := (fq p1 j k)) Z Z Z (fun I => ?_))
 refine Ea Z<|fb<|fc<|fa<|EF 2 Z<|El (Vi p1.threads) Z (Rb0 Z)<|?_
 obtain ⟨b4, bZ, H⟩ := bnd H
 refine fe Z (jw (T := (Ty.sl gR)) (r := [(sv fB)]) Z Z Z bZ Z Z Z Z Z Z Z Z Z ⟨fB, Z, (Slr.nil gR _)⟩ (fun i b1 bp b0 => ?_))
 obtain ⟨b3, bW, rfl⟩ : ∃ vs : List Value, vs = List.replicate p1.threads.toNat (sv fB) ∧ b1 = vs.map one := ⟨_, rfl, by rw [b0]; exact kH.symm⟩
 refine Ow.shift (Shift.nilTokV bW 51 7  (Sd ?_))
 refine Ea Z<|fb<|?_
 refine fz (fun A n m => ∃ (aJ : ae8) (aa : List Value) (aH aI : Int), [(7, (sv i))] = A ∧ (.blk e 99 (fE (fg.mk p0.list aH aI) g)) :: (.row (sv i) 52 1 (aa.map one).flatten) :: (.tok 51 7 aa) :: G = m ∧ or p0 aJ aH aI = some (D, E, F) ∧ RowR (Ty.sl gR) n (aa.map one) aJ) ?_ ?_
 ·refine fc<|fa<|Ea Z<|fb<|fA<|?_
  refine fY (fun bb A n m => ∃ (d : ae8) (c : List Value) (p B C : Int), [(0, (Vp e)), (2, (Vi p2)), (4, (Vp I)), (7, (sv i)), (8, (Vi p))] = A ∧ (.blk e 99 (fE (fg.mk p0.list B C) g)) :: (.blk I 27 (fq p1 j k)) :: (.row (sv i) 52 1 (c.map one).flatten) :: (.tok 51 7 c) :: G = m ∧ lp4 (ou p2 p0 p1) bb d p B C = some (D, E, F) ∧ RowR (Ty.sl gR) n (c.map one) d) BIG ?_ ?_
  ·exact Pu1<|Pu2<|Pu3<|Sd<|⟨_, by exact R5, b4, b3, 0, p0.at_, p0.value, Z, Z, H, bp⟩
  rintro bb _ bg _ x ⟨d, c, p, B, C, rfl, rfl, H, o⟩
  obtain ⟨cB, ba, rfl, br, H⟩ := lps4 H
  unfold ou at H
  refine fc ?_
  refine fz (fun A n m => ∃ (aK : Bool) (y z : Int), [(0, (Vp e)), (2, (Vi p2)), (4, (Vp I)), (7, (sv i)), (8, (Vi p)), (19, (.bool aK))] = A ∧ bg = n ∧ (.blk e 99 (fE (fg.mk p0.list y z) g)) :: (.blk I 27 (fq p1 j k)) :: (.row (sv i) 52 1 (c.map one).flatten) :: (.tok 51 7 c) :: G = m ∧ mz p2 d p p0 p1 ba aK y z = some (D, E, F)) ?_ ?_
  ·refine fa<|Em Z<|Em Z<|Ec Z<|Em Z<|?_
   refine Ee Z ?_ ?_
   ·intro W
    obtain ⟨W, H⟩ := It W H
    refine Vm Z ?_
    obtain ⟨bf, bX, H⟩ := bnd H
    have bC := a3.mono x
    refine hQ Z Z Z Z (Ek Tryz.call22 Z (tK e (fg.mk p0.list B C) g bf bX _ _ bC) ?_)
    rintro _ _ _ - ⟨rfl, rfl, rfl⟩
    exact Et Z<|fb<|Pu3<|Pu3<|Pu3<|Pu3<|Sd<|⟨_, by exact R6, bf, ((fg.mk p0.list B C).at_), ((fg.mk p0.list B C).value), Z, Z, Z, H⟩
   ·intro W
    obtain ⟨W, H⟩ := If W H
    exact Ez Z<|Ez Z<|Ef Z<|fb<|Pu3<|Pu3<|Pu3<|Pu3<|Sd<|⟨_, by exact R6, false, B, C, Z, Z, Z, H⟩
  rintro _ _ _ - ⟨aK, y, z, rfl, rfl, rfl, H⟩
  unfold mz at H
  refine fm Z ?_ ?_
  ·intro ay
   have H := ift ay H
   refine ft ?_
   refine fz (fun A n m => ∃ (av : ae8) (Y : List Value) (ar au : Int), [(0, (Vp e)), (2, (Vi p2)), (4, (Vp I)), (7, (sv i)), (8, (Vi p))] = A ∧ (.blk e 99 (fE (fg.mk p0.list ar au) g)) :: (.blk I 27 (fq p1 j k)) :: (.row (sv i) 52 1 (Y.map one).flatten) :: (.tok 51 7 Y) :: G = m ∧ ot p2 p p0 p1 ba av ar au = some (D, E, F) ∧ RowR (Ty.sl gR) n (Y.map one) av) ?_ ?_
   ·refine fA<|fc<|fa<|Em Z<|EF 2 Z<|El (Vi p1.threads) Z (Rb1 Z)<|?_
    obtain ⟨a, aw, bY, H⟩ := iw H
    have aj := a3.mono x
    refine fe Z (Ek Tryz.call23 Z (jd e (fg.mk p0.list y z) g p1.threads a aw bY _ _ aj) ?_)
    rintro _ _ _ - ⟨rfl, rfl, rfl⟩
    refine Ea Z<|fb<|?_
    obtain ⟨cX, L, H⟩ := bnd H
    obtain ⟨b, u, w, aG, H⟩ := j7 H
    obtain ⟨h, M, H⟩ := bnd H
    obtain ⟨cY, f, H⟩ := bnd H
    refine fw _ Z (Ic Mb1 In0)<|Jm 0 Z<|Jm 1 Z<|Jm 2 Z<|Jm 3 Z<|Jm 6 Z<|JL 7 3 (fq p1 j k) Z (Rb0 Z)<|?_
    refine gW 4 8 (by kernel_rfl) ?_ ?_
    ·obtain ⟨cC, X, bs⟩ := RowR.at o L
     obtain ⟨aL, rfl, aC⟩ := bs
     have aF := je X
     refine id (Jyq Z (gP (T := (Ty.sl gR)) Mb2 o X (fR L).1 Z Z Z Z Z) ⟨(Ic Mb1 In0), ?_⟩)
     refine gW 5 8 (by kernel_rfl) ?_ ?_
     ·refine id (Jyq Z (gr (v := (sv aL)) Z Z Z (ib (T := (Ty.sl gR)) Mb2 o X Z Z)) ⟨(Ic Mb1 In0), ?_⟩)
      refine Ao 8 Z ?_
      have bD := az.mono x
      have bE := aA.mono x
      refine Ek Tryz.call40 Z (xC e (fg.mk p0.list aw ((fg.mk p0.list y z).value)) g p1 j k b u w aG _ _ aj bD bE) ?_
      rintro _ bh _ aP ⟨aM, aN, rfl, rfl, bF, bG⟩
      refine ⟨(Ic Mb1 In0), ?_⟩
      refine Ao 9 Z ?_
      have aR : RowR gR bh [(fj b aM aN)] [b] := RowR.cons ⟨aM, aN, Z, bF, bG⟩ (RowR.nil)
      refine gh (T := gR) (rows := [(fj b aM aN)]) (l := [b]) Z Z Z aR Z Z Z Z Z Z Z Z (fun cL => ⟨(Ic Mb2 In0), ?_⟩)
      refine Ao 10 Z ?_
      have bI := aC.mono aP
      refine f8 (T := gR) (bytes := 88) (q := a.toNat) Z Z Z bI Mb4 aF (SrcT.row Mb0 aR Z) M Z Z Z Z Z Z Z Z (fun N b5 bi bH => ⟨_, (.there (.there (.there (.there .here)))), ⟨(Ic Mb2 In0), ?_⟩⟩)
      refine Aw.shift (Re0 (Sd ⟨(Ic Mb1 In0), ?_⟩))
      have ak := (o.mono aP).mono bi
      obtain ⟨cD, ac, bt⟩ := RowR.at ak f
      obtain ⟨cM, rfl, co⟩ := bt
      have cv := je ac
      refine gB 11 (by kernel_rfl) (Jyq Z (gP (T := (Ty.sl gR)) Mb2 ak ac (fR f).1 Z Z Z Z Z) ⟨(Ic Mb1 In0), ?_⟩)
      refine Ao 12 Z ?_
      refine gX (T := (Ty.sl gR)) (vs := [(sv N)]) (r' := [(sv N)]) (l' := (gb d a h)) Z Z Z Z Z (.there (.there .here)) ak ac Z Z Z (RowR.set a ak ⟨N, Z, bH⟩) (fun aS => ⟨(Ic Mb1 In0), ?_⟩)
      have hse := iL c a.toNat (sv N)
      rw [hse] at aS ⊢
      clear hse
      have cg := jV ac (v := (sv N))
      exact Ad<|Pu3<|Pu3<|Pu3<|Pu3<|Sd<|⟨_, by exact R5, (gb d a h), (c.set a.toNat (sv N)), u, w, Z, Z, H, aS⟩
     ·refine id (Jy Z ?_)
      have bJ := az.mono x
      have bK := aA.mono x
      refine Ek Tryz.call40 Z (xC e (fg.mk p0.list aw ((fg.mk p0.list y z).value)) g p1 j k b u w aG _ _ aj bJ bK) ?_
      rintro _ aO _ ab ⟨O, P, rfl, rfl, a4, a5⟩
      refine ⟨(Ic Mb1 In0), ?_⟩
      refine gW 5 9 (by kernel_rfl) ?_ ?_
      ·have a6 := o.mono ab
       refine id (Jyq Z (gr (v := (sv aL)) Z Z Z (ib (T := (Ty.sl gR)) Mb2 a6 X Z Z)) ⟨(Ic Mb1 In0), ?_⟩)
       refine Ao 9 Z ?_
       have aT : RowR gR aO [(fj b O P)] [b] := RowR.cons ⟨O, P, Z, a4, a5⟩ (RowR.nil)
       refine gh (T := gR) (rows := [(fj b O P)]) (l := [b]) Z Z Z aT Z Z Z Z Z Z Z Z (fun cN => ⟨(Ic Mb2 In0), ?_⟩)
       refine Ao 10 Z ?_
       have bM := aC.mono ab
       refine f8 (T := gR) (bytes := 88) (q := a.toNat) Z Z Z bM Mb4 aF (SrcT.row Mb0 aT Z) M Z Z Z Z Z Z Z Z (fun Q b6 bj bL => ⟨_, (.there (.there (.there (.there .here)))), ⟨(Ic Mb2 In0), ?_⟩⟩)
       refine Aw.shift (Re0 (Sd ⟨(Ic Mb1 In0), ?_⟩))
       have al := a6.mono bj
       obtain ⟨cE, ad, bu⟩ := RowR.at al f
       obtain ⟨cO, rfl, cp⟩ := bu
       have cw := je ad
       refine gB 11 (by kernel_rfl) (Jyq Z (gP (T := (Ty.sl gR)) Mb2 al ad (fR f).1 Z Z Z Z Z) ⟨(Ic Mb1 In0), ?_⟩)
       refine Ao 12 Z ?_
       refine gX (T := (Ty.sl gR)) (vs := [(sv Q)]) (r' := [(sv Q)]) (l' := (gb d a h)) Z Z Z Z Z (.there (.there .here)) al ad Z Z Z (RowR.set a al ⟨Q, Z, bL⟩) (fun aU => ⟨(Ic Mb1 In0), ?_⟩)
       have hse := iL c a.toNat (sv Q)
       rw [hse] at aU ⊢
       clear hse
       have ch := jV ad (v := (sv Q))
       exact Ad<|Pu3<|Pu3<|Pu3<|Pu3<|Sd<|⟨_, by exact R5, (gb d a h), (c.set a.toNat (sv Q)), u, w, Z, Z, H, aU⟩
      ·refine id (Jy Z ?_)
       have aV : RowR gR aO [(fj b O P)] [b] := RowR.cons ⟨O, P, Z, a4, a5⟩ (RowR.nil)
       refine gh (T := gR) (rows := [(fj b O P)]) (l := [b]) Z Z Z aV Z Z Z Z Z Z Z Z (fun cP => ⟨(Ic Mb2 In0), ?_⟩)
       have a7 := o.mono ab
       refine gB 5 (by kernel_rfl) (Jyq Z (gr (v := (sv aL)) Z Z Z (ib (T := (Ty.sl gR)) Mb3 a7 X Z Z)) ⟨(Ic Mb2 In0), ?_⟩)
       refine Ao 10 Z ?_
       have bO := aC.mono ab
       refine f8 (T := gR) (bytes := 88) (q := a.toNat) Z Z Z bO Mb4 aF (SrcT.row Mb0 aV Z) M Z Z Z Z Z Z Z Z (fun R b7 bk bN => ⟨_, (.there (.there (.there (.there .here)))), ⟨(Ic Mb2 In0), ?_⟩⟩)
       refine Aw.shift (Re0 (Sd ⟨(Ic Mb1 In0), ?_⟩))
       have am := a7.mono bk
       obtain ⟨cF, ae, bv⟩ := RowR.at am f
       obtain ⟨cQ, rfl, cq⟩ := bv
       have cx := je ae
       refine gB 11 (by kernel_rfl) (Jyq Z (gP (T := (Ty.sl gR)) Mb2 am ae (fR f).1 Z Z Z Z Z) ⟨(Ic Mb1 In0), ?_⟩)
       refine Ao 12 Z ?_
       refine gX (T := (Ty.sl gR)) (vs := [(sv R)]) (r' := [(sv R)]) (l' := (gb d a h)) Z Z Z Z Z (.there (.there .here)) am ae Z Z Z (RowR.set a am ⟨R, Z, bN⟩) (fun aW => ⟨(Ic Mb1 In0), ?_⟩)
       have hse := iL c a.toNat (sv R)
       rw [hse] at aW ⊢
       clear hse
       have ci := jV ae (v := (sv R))
       exact Ad<|Pu3<|Pu3<|Pu3<|Pu3<|Sd<|⟨_, by exact R5, (gb d a h), (c.set a.toNat (sv R)), u, w, Z, Z, H, aW⟩
    ·refine id (Jy Z ?_)
     have bP := az.mono x
     have bQ := aA.mono x
     refine Ek Tryz.call40 Z (xC e (fg.mk p0.list aw ((fg.mk p0.list y z).value)) g p1 j k b u w aG _ _ aj bP bQ) ?_
     rintro _ ax _ aQ ⟨s, t, rfl, rfl, aD, aE⟩
     refine ⟨(Ic Mb1 In0), ?_⟩
     refine gW 4 9 (by kernel_rfl) ?_ ?_
     ·have J := o.mono aQ
      obtain ⟨cG, af, bw⟩ := RowR.at J L
      obtain ⟨bd, rfl, a8⟩ := bw
      have a9 := je af
      refine id (Jyq Z (gP (T := (Ty.sl gR)) Mb2 J af (fR L).1 Z Z Z Z Z) ⟨(Ic Mb1 In0), ?_⟩)
      refine gW 5 9 (by kernel_rfl) ?_ ?_
      ·refine id (Jyq Z (gr (v := (sv bd)) Z Z Z (ib (T := (Ty.sl gR)) Mb2 J af Z Z)) ⟨(Ic Mb1 In0), ?_⟩)
       refine Ao 9 Z ?_
       have aX : RowR gR ax [(fj b s t)] [b] := RowR.cons ⟨s, t, Z, aD, aE⟩ (RowR.nil)
       refine gh (T := gR) (rows := [(fj b s t)]) (l := [b]) Z Z Z aX Z Z Z Z Z Z Z Z (fun cR => ⟨(Ic Mb2 In0), ?_⟩)
       refine Ao 10 Z ?_
       refine f8 (T := gR) (bytes := 88) (q := a.toNat) Z Z Z a8 Mb4 a9 (SrcT.row Mb0 aX Z) M Z Z Z Z Z Z Z Z (fun S b8 bl bR => ⟨_, (.there (.there (.there (.there .here)))), ⟨(Ic Mb2 In0), ?_⟩⟩)
       refine Aw.shift (Re0 (Sd ⟨(Ic Mb1 In0), ?_⟩))
       have an := J.mono bl
       obtain ⟨cH, ag, bx⟩ := RowR.at an f
       obtain ⟨cS, rfl, cr⟩ := bx
       have cy := je ag
       refine gB 11 (by kernel_rfl) (Jyq Z (gP (T := (Ty.sl gR)) Mb2 an ag (fR f).1 Z Z Z Z Z) ⟨(Ic Mb1 In0), ?_⟩)
       refine Ao 12 Z ?_
       refine gX (T := (Ty.sl gR)) (vs := [(sv S)]) (r' := [(sv S)]) (l' := (gb d a h)) Z Z Z Z Z (.there (.there .here)) an ag Z Z Z (RowR.set a an ⟨S, Z, bR⟩) (fun aY => ⟨(Ic Mb1 In0), ?_⟩)
       have hse := iL c a.toNat (sv S)
       rw [hse] at aY ⊢
       clear hse
       have cj := jV ag (v := (sv S))
       exact Ad<|Pu3<|Pu3<|Pu3<|Pu3<|Sd<|⟨_, by exact R5, (gb d a h), (c.set a.toNat (sv S)), u, w, Z, Z, H, aY⟩
      ·refine id (Jy Z ?_)
       have aZ : RowR gR ax [(fj b s t)] [b] := RowR.cons ⟨s, t, Z, aD, aE⟩ (RowR.nil)
       refine gh (T := gR) (rows := [(fj b s t)]) (l := [b]) Z Z Z aZ Z Z Z Z Z Z Z Z (fun cT => ⟨(Ic Mb2 In0), ?_⟩)
       refine gB 5 (by kernel_rfl) (Jyq Z (gr (v := (sv bd)) Z Z Z (ib (T := (Ty.sl gR)) Mb3 J af Z Z)) ⟨(Ic Mb2 In0), ?_⟩)
       refine Ao 10 Z ?_
       refine f8 (T := gR) (bytes := 88) (q := a.toNat) Z Z Z a8 Mb4 a9 (SrcT.row Mb0 aZ Z) M Z Z Z Z Z Z Z Z (fun U b9 bm bS => ⟨_, (.there (.there (.there (.there .here)))), ⟨(Ic Mb2 In0), ?_⟩⟩)
       refine Aw.shift (Re0 (Sd ⟨(Ic Mb1 In0), ?_⟩))
       have ao := J.mono bm
       obtain ⟨cI, ah, bz⟩ := RowR.at ao f
       obtain ⟨cU, rfl, ct⟩ := bz
       have cz := je ah
       refine gB 11 (by kernel_rfl) (Jyq Z (gP (T := (Ty.sl gR)) Mb2 ao ah (fR f).1 Z Z Z Z Z) ⟨(Ic Mb1 In0), ?_⟩)
       refine Ao 12 Z ?_
       refine gX (T := (Ty.sl gR)) (vs := [(sv U)]) (r' := [(sv U)]) (l' := (gb d a h)) Z Z Z Z Z (.there (.there .here)) ao ah Z Z Z (RowR.set a ao ⟨U, Z, bS⟩) (fun a0 => ⟨(Ic Mb1 In0), ?_⟩)
       have hse := iL c a.toNat (sv U)
       rw [hse] at a0 ⊢
       clear hse
       have ck := jV ah (v := (sv U))
       exact Ad<|Pu3<|Pu3<|Pu3<|Pu3<|Sd<|⟨_, by exact R5, (gb d a h), (c.set a.toNat (sv U)), u, w, Z, Z, H, a0⟩
     ·refine id (Jy Z ?_)
      have a1 : RowR gR ax [(fj b s t)] [b] := RowR.cons ⟨s, t, Z, aD, aE⟩ (RowR.nil)
      refine gh (T := gR) (rows := [(fj b s t)]) (l := [b]) Z Z Z a1 Z Z Z Z Z Z Z Z (fun cV => ⟨(Ic Mb2 In0), ?_⟩)
      have ap := o.mono aQ
      obtain ⟨cJ, aB, bA⟩ := RowR.at ap L
      obtain ⟨b2, rfl, bT⟩ := bA
      have bV := je aB
      refine gB 4 (by kernel_rfl) (Jyq Z (gP (T := (Ty.sl gR)) Mb3 ap aB (fR L).1 Z Z Z Z Z) ⟨(Ic Mb2 In0), ?_⟩)
      refine gB 5 (by kernel_rfl) (Jyq Z (gr (v := (sv b2)) Z Z Z (ib (T := (Ty.sl gR)) Mb3 ap aB Z Z)) ⟨(Ic Mb2 In0), ?_⟩)
      refine Ao 10 Z ?_
      refine f8 (T := gR) (bytes := 88) (q := a.toNat) Z Z Z bT Mb4 bV (SrcT.row Mb0 a1 Z) M Z Z Z Z Z Z Z Z (fun V ca bn bU => ⟨_, (.there (.there (.there (.there .here)))), ⟨(Ic Mb2 In0), ?_⟩⟩)
      refine Aw.shift (Re0 (Sd ⟨(Ic Mb1 In0), ?_⟩))
      have aq := ap.mono bn
      obtain ⟨cK, ai, bB⟩ := RowR.at aq f
      obtain ⟨cW, rfl, cu⟩ := bB
      have cA := je ai
      refine gB 11 (by kernel_rfl) (Jyq Z (gP (T := (Ty.sl gR)) Mb2 aq ai (fR f).1 Z Z Z Z Z) ⟨(Ic Mb1 In0), ?_⟩)
      refine Ao 12 Z ?_
      refine gX (T := (Ty.sl gR)) (vs := [(sv V)]) (r' := [(sv V)]) (l' := (gb d a h)) Z Z Z Z Z (.there (.there .here)) aq ai Z Z Z (RowR.set a aq ⟨V, Z, bU⟩) (fun a2 => ⟨(Ic Mb1 In0), ?_⟩)
      have hse := iL c a.toNat (sv V)
      rw [hse] at a2 ⊢
      clear hse
      have cl := jV ai (v := (sv V))
      exact Ad<|Pu3<|Pu3<|Pu3<|Pu3<|Sd<|⟨_, by exact R5, (gb d a h), (c.set a.toNat (sv V)), u, w, Z, Z, H, a2⟩
   rintro _ cb _ cm ⟨av, Y, ar, au, rfl, rfl, H, bo⟩
   unfold ot at H
   exact fa<|Em Z<|Er (wI (p + 1)) Z<|Ea Z<|fb<|Pu3<|Pu3<|Pu3<|Pu3<|Sd<|⟨_, by exact R5, _, Nat.lt_succ_self _, av, Y, (wI (p + 1)), ar, au, Z, Z, (br ▸ H), bo⟩
  ·intro ay
   have H := f0 (btf ay) H
   exact f5<|Pu3<|Pu3<|Pu2<|Re3<|Sd<|⟨_, by exact R1, d, c, y, z, Z, Z, H, o⟩
 rintro _ cc _ cn ⟨aJ, aa, aH, aI, rfl, rfl, H, bq⟩
 unfold or at H
 refine fc<|fa<|Em Z<|Ea Z<|fb<|fx<|?_
 obtain ⟨cd, ce, cf⟩ := jq H
 subst D E F
 refine ⟨(.inl Z), [(sv i)], ⟨(sv i), _, Z, Z, Z⟩, ?_⟩
 exact Pu1<|Pu1<|Re2<|Sd<|⟨i, (aa.map one), Z, Z, bq⟩
theorem yP (p0 p1 c : Int) (H : oK p0 p1 = some c) (K : Kp) (G : List Ent)  :
  Fc Tryz.prog 12 #[(Vi p0), (Vi p1)] K (G) (fun v e d => v = (Vi c) ∧ K = e ∧ G = d) := by
 refine fN Tryz.func12 Z Tryz.ntmps12 Tryz.results12 Z ?_
 unfold oK at H
 refine fc<|fa<|Ea Z<|fb<|fc<|fa<|Em Z<|Em Z<|?_
 obtain ⟨b, g, H⟩ := bnd H
 refine Eq Z (Dj g Z Z)<|Ea Z<|fb<|fc<|fc<|fa<|Em Z<|Ec Z<|fb<|?_
 refine fm Z ?_ ?_
 ·intro a
  obtain ⟨a, H⟩ := It a H
  refine fa<|Em Z<|Em Z<|Er (wI (b + p1)) Z<|Ea Z<|fb<|fc<|fa<|Em Z<|Ea Z<|fb<|fx<|?_
  obtain f := gq H
  subst c
  refine ⟨(.inl Z), [(Vi (wI (b + p1)))], ⟨(Vi (wI (b + p1))), _, Z, Z, Z⟩, ?_⟩
  exact Sd ⟨Z, Z, Z⟩
 ·intro a
  obtain ⟨a, H⟩ := If a H
  refine ft<|fc<|fa<|Em Z<|Ea Z<|fb<|fx<|?_
  obtain f := gq H
  subst c
  refine ⟨(.inl Z), [(Vi b)], ⟨(Vi b), _, Z, Z, Z⟩, ?_⟩
  exact Sd ⟨Z, Z, Z⟩
theorem AX (p0 : ad8) (j : SV) (p1 p2 : Int) (p3 : Bool) (c : Int) (H : pC p0 p1 p2 p3 = some c) (K : Kp) (G : List Ent) (m : Slr f4 K (sv j) p0) :
  Fc Tryz.prog 87 #[(sv j), (Vi p1), (Vi p2), (.bool p3)] K (G) (fun v e b => v = (Vi c) ∧ G = b) := by
 refine fN Tryz.func87 Z Tryz.ntmps87 Tryz.results87 Z ?_
 unfold pC at H
 refine fc<|fa<|Ea Z<|fb<|?_
 refine fz (fun f e b => [] = f ∧ G = b ∧ qM = some c) ?_ ?_
 ·refine fc<|fa<|Em Z<|Eq Z (ge (T := f4) m Z Z)<|Em Z<|fb<|fA<|?_
  refine fY (fun n117 f e b => ∃ (a : Int), [(1, (Vi p1)), (2, (Vi p2)), (3, (.bool p3)), (11, (sv j)), (12, (Vi (p0.length : Int))), (13, (Vi a))] = f ∧ K = e ∧ G = b ∧ lp1 (sH p1 p2 p3 p0) n117 a = some c) BIG ?_ ?_
  ·exact Sd ⟨_, by exact R6, 0, Z, Z, Z, H⟩
  rintro n117 _ _ _ - ⟨a, rfl, rfl, rfl, H⟩
  obtain ⟨x, s, rfl, r, H⟩ := lr H
  unfold sH at H
  refine fc<|fa<|Ec Z<|fb<|fc<|?_
  refine fm Z ?_ ?_
  ·intro g
   obtain ⟨g, H⟩ := It g H
   refine ft<|fc<|fA<|fc<|fa<|Em Z<|?_
   obtain ⟨d, o, H⟩ := bnd H
   obtain ⟨_, rfl, q⟩ := Slr.at m o
   refine Eq Z (Qi (T := f4) m o Z)<|EL 8 (fZ d) Z (Rdc.k q Z)<|?_
   refine fe Z (fD (cs := (fZ (Event.mk 0 0 false (Result.mk 0 0 0 false 0)))) Z Z Z Z (fun u => ?_))
   refine Ea Z ?_
   refine fe Z (Sa (fZ d) Z .here Z ?_)
   refine fb ?_
   refine fz (fun f e b => ∃ (n : Bool), [(1, (Vi p1)), (2, (Vi p2)), (3, (.bool p3)), (9, (Vi a)), (11, (sv j)), (12, (Vi (p0.length : Int))), (13, (Vi a)), (33, (.bool n))] = f ∧ K = e ∧ G = b ∧ sG p1 p2 p3 a p0 s n = some c) ?_ ?_
   ·refine fa<|EF 0 Z<|El (Vi d.thread) Z (Rb0 Z)<|Em Z<|Ec Z<|Em Z<|?_
    refine Ee Z ?_ ?_
    ·intro h
     obtain ⟨h, H⟩ := It h H
     refine VF 1 Z<|Vl (Vi d.op) Z (Rb0 Z)<|Vm Z<|Vc Z<|Et Z<|Em Z<|?_
     refine Ee Z ?_ ?_
     ·intro i
      obtain ⟨i, H⟩ := It i H
      exact VF 2 Z<|Vl (.bool d.ret) Z (Rb0 Z)<|Vm Z<|Vq Z (Ak Z Z Z)<|Et Z<|fb<|Re0<|Sd<|⟨_, by exact R8, (d.ret == p3), Z, Z, Z, H⟩
     ·intro i
      obtain ⟨i, H⟩ := If i H
      exact Ez Z<|Ez Z<|Ez Z<|Ez Z<|Ef Z<|fb<|Re0<|Sd<|⟨_, by exact R8, false, Z, Z, Z, H⟩
    ·intro h
     obtain ⟨h, H⟩ := If h H
     exact Ez Z<|Ez Z<|Ez Z<|Ez Z<|Ef Z<|Em Z<|Ez Z<|Ez Z<|Ez Z<|Ez Z<|Ef Z<|fb<|Re0<|Sd<|⟨_, by exact R8, false, Z, Z, Z, H⟩
   rintro _ _ _ - ⟨n, rfl, rfl, rfl, H⟩
   unfold sG at H
   refine fm Z ?_ ?_
   ·intro l
    have H := ift l H
    refine fc<|fa<|Em Z<|Ea Z<|fb<|fx<|?_
    obtain p := gq H
    subst c
    refine ⟨(.inl Z), [(Vi a)], ⟨(Vi a), _, Z, Z, Z⟩, ?_⟩
    exact Sd ⟨Z, Z⟩
   ·intro l
    have H := f0 (btf l) H
    exact ft<|fa<|Er (wI (a + 1)) Z<|Em Z<|fb<|Sd<|⟨_, by exact R6, _, Nat.lt_succ_self _, (wI (a + 1)), Z, Z, Z, (r ▸ H)⟩
  ·intro g
   obtain ⟨g, H⟩ := If g H
   exact f5<|Sd<|⟨[], trivial, Z, Z, H⟩
 rintro _ t _ w ⟨rfl, rfl, H⟩
 unfold qM at H
 refine fc<|fa<|Ea Z<|fb<|fx<|?_
 obtain p := gq H
 subst c
 refine ⟨(.inl Z), [(Vi (-1))], ⟨(Vi (-1)), _, Z, Z, Z⟩, ?_⟩
 exact Sd ⟨Z, Z⟩
theorem yV (p0 : ad8) (a : SV) (p1 p2 c : Int) (H : qN p0 p1 p2 = some c) (K : Kp) (G : List Ent) (e : Slr f4 K (sv a) p0) :
  Fc Tryz.prog 55 #[(sv a), (Vi p1), (Vi p2)] K (G) (fun v g d => v = (Vi c) ∧ G = d) := by
 refine fN Tryz.func55 Z Tryz.ntmps55 Tryz.results55 Z ?_
 unfold qN at H
 refine fc<|fa<|Ea Z<|fb<|fc<|fa<|Em Z<|Em Z<|Em Z<|?_
 obtain ⟨b, f, H⟩ := bnd H
 refine fe Z (Ek Tryz.call87 Z (AX p0 a p1 p2 false b f _ _ e) ?_)
 rintro _ h _ j ⟨rfl, rfl⟩
 refine Ea Z<|fb<|fx<|?_
 obtain i := gq H
 subst c
 refine ⟨(.inl Z), [(Vi b)], ⟨(Vi b), _, Z, Z, Z⟩, ?_⟩
 exact Sd ⟨Z, Z⟩
theorem Bd (p0 : ad8) (e : SV) (p1 p2 : Int) (c : Result) (d : Int) (H : sJ p0 p1 p2 = some (c, d)) (K : Kp) (G : List Ent) (f : Slr f4 K (sv e) p0) :
  Fc Tryz.prog 56 #[(sv e), (Vi p1), (Vi p2)] K (G) (fun v p i => v = (.tuple #[(.agg (ff c).toArray), (Vi d)]) ∧ G = i) := by
 refine fN Tryz.func56 Z Tryz.ntmps56 Tryz.results56 Z ?_
 unfold sJ at H
 refine fc<|fa<|?_
 refine fe Z (fD (cs := (ff (Result.mk 0 0 0 false 0))) Z Z Z Z (fun r => ?_))
 refine Ea Z<|fb<|fc<|fa<|Em Z<|Em Z<|Em Z<|?_
 obtain ⟨x14, o, H⟩ := bnd H
 refine fe Z (Ek Tryz.call87 Z (AX p0 e p1 p2 true x14 o _ _ f) ?_)
 rintro _ q _ m ⟨rfl, rfl⟩
 refine Ea Z<|fb<|fc<|fc<|fa<|Em Z<|Ec Z<|fb<|?_
 refine fm Z ?_ ?_
 ·intro a
  obtain ⟨a, H⟩ := It a H
  refine fc<|fa<|Eq Z (fG (cs := (ff (Result.mk 0 0 0 false 0))) Z Z Z Z Z Z)<|?_
  refine fe Z (Sa (ff (Result.mk 0 0 0 false 0)) Z .here Z ?_)
  refine Ea Z<|fb<|fx<|?_
  obtain ⟨j, l⟩ := ic H
  subst c d
  refine ⟨(.inl Z), [(.agg (ff (Result.mk 0 0 0 false 0)).toArray), (Vi (-1))], ⟨(.agg (ff (Result.mk 0 0 0 false 0)).toArray), _, Z, ⟨_, 5, (ff (Result.mk 0 0 0 false 0)), Z, Z, Z, Z, ⟨Z, Rb0 Z⟩, Z⟩, ⟨(Vi (-1)), _, Z, Z, Z⟩⟩, ?_⟩
  exact Re0<|Sd<|⟨Z, Z⟩
 ·intro a
  obtain ⟨a, H⟩ := If a H
  refine ft<|fc<|fa<|Em Z<|Em Z<|?_
  obtain ⟨b, h, H⟩ := bnd H
  have g := f.mono m
  obtain ⟨_, rfl, n⟩ := Slr.at g h
  refine Eq Z (Qi (T := f4) g h Z)<|EF 3 Z<|EL 5 (ff b.result) Z (Rdc.k n Z)<|Em Z<|?_
  refine fe Z (Sa (ff b.result) Z .here Z ?_)
  refine Ea Z<|fb<|fx<|?_
  obtain ⟨j, l⟩ := ic H
  subst c d
  refine ⟨(.inl Z), [(.agg (ff b.result).toArray), (Vi x14)], ⟨(.agg (ff b.result).toArray), _, Z, ⟨_, 5, (ff b.result), Z, Z, Z, Z, ⟨Z, Rb0 Z⟩, Z⟩, ⟨(Vi x14), _, Z, Z, Z⟩⟩, ?_⟩
  exact Re0<|Sd<|⟨Z, Z⟩
theorem Dw (p0 : ad8) (p : SV) (j : ae5) (H : oL p0 = some j) (K : Kp) (G : List Ent) (u : Slr f4 K (sv p) p0) :
  Fc Tryz.prog 66 #[(sv p)] K (G) (fun v g f => ∃ (r : SV), v = (sv r) ∧ (.tok 91 2 [(sv r)]) :: G = f ∧ Slr gy g (sv r) j) := by
 refine fN Tryz.func66 Z Tryz.ntmps66 Tryz.results66 Z ?_
 unfold oL at H
 refine fc<|fa<|Ea Z<|fb<|fc<|fa<|Ea Z<|fb<|?_
 refine fz (fun m g f => ∃ (d : SV) (o : ae5), [(3, (sv d))] = m ∧ (.tok 91 2 [(sv d)]) :: G = f ∧ rM o = some j ∧ Slr gy g (sv d) o) ?_ ?_
 ·refine fc<|fa<|Em Z<|Eq Z (ge (T := f4) u Z Z)<|Em Z<|fb<|fA<|?_
  refine fY (fun n147 m g f => ∃ (e : SV) (i : ae5) (c : Int), [(3, (sv e)), (6, (sv p)), (7, (Vi (p0.length : Int))), (8, (Vi c))] = m ∧ (.tok 91 2 [(sv e)]) :: G = f ∧ lp2 (s1 p0) n147 i c = some j ∧ Slr gy g (sv e) i) BIG ?_ ?_
  ·exact Shift.nilTok1 91 2<|Sd<|⟨_, by exact R4, fB, ([] : ae5), 0, Z, Z, H, (Slr.nil gy _)⟩
  rintro n147 _ y _ z ⟨e, i, c, rfl, rfl, H, n⟩
  obtain ⟨Q, P, rfl, t, H⟩ := jC H
  unfold s1 at H
  refine fc<|fa<|Ec Z<|fb<|fc<|?_
  refine fm Z ?_ ?_
  ·intro h
   obtain ⟨h, H⟩ := It h H
   refine ft<|fc<|fA<|fc<|fa<|?_
   obtain ⟨a, x, H⟩ := bnd H
   have w := u.mono z
   obtain ⟨_, rfl, A⟩ := Slr.at w x
   refine Eq Z (Qi (T := f4) w x Z)<|EL 8 (fZ a) Z (Rdc.k A Z)<|?_
   refine fe Z (fD (cs := (fZ (Event.mk 0 0 false (Result.mk 0 0 0 false 0)))) Z Z Z Z (fun L => ?_))
   refine fe Z (Sa (fZ a) Z .here Z ?_)
   refine fb<|fc<|fa<|EF 2 Z<|El (.bool a.ret) Z (Rb0 Z)<|Eq Z (gf Z)<|fb<|?_
   refine fm Z ?_ ?_
   ·intro b
    have b := iv b
    have H := f0 (btf b) H
    refine fa<|Em Z<|EF 0 Z<|El (Vi a.thread) Z (Rb0 Z)<|EF 1 Z<|El (Vi a.op) Z (Rb0 Z)<|Eq Z (kC (cs := (gv (A2Int.mk a.thread a.op))) Z Z Z Z Z Z)<|?_
    have s : RowR gy y [(gv (A2Int.mk a.thread a.op))] [(A2Int.mk a.thread a.op)] := RowR.cons Z (RowR.nil)
    refine fe Z (gh (T := gy) (rows := [(gv (A2Int.mk a.thread a.op))]) (l := [(A2Int.mk a.thread a.op)]) Z Z Z s Z Z Z Z Z Z Z Z (fun R => ?_))
    obtain ⟨F, D, H⟩ := bnd H
    refine fe Z (f8 (T := gy) (bytes := 16) (q := 0) Z Z Z n Mb2 Z (SrcT.row Mb0 s Z) D Z Z Z Z Z Z Z Z (fun E I N C => ⟨_, (.there (.there .here)), ?_⟩))
    refine Ow.shift (Re0 (Sd ?_))
    exact Ea Z<|fb<|fa<|Er (wI (c + 1)) Z<|Em Z<|fb<|Pu1<|Re1<|Sd<|⟨_, by exact R4, _, Nat.lt_succ_self _, E, F, (wI (c + 1)), Z, Z, (t ▸ H), C⟩
   ·intro b
    have b := ir b
    have H := ift b H
    exact ft<|fa<|Er (wI (c + 1)) Z<|Em Z<|fb<|Pu1<|Re1<|Sd<|⟨_, by exact R4, _, Nat.lt_succ_self _, e, i, (wI (c + 1)), Z, Z, (t ▸ H), n⟩
  ·intro h
   obtain ⟨h, H⟩ := If h H
   exact f5<|Sd<|⟨_, by exact R1, e, i, Z, Z, H, n⟩
 rintro _ J _ O ⟨d, o, rfl, rfl, H, B⟩
 unfold rM at H
 refine fc<|fa<|Em Z<|Ea Z<|fb<|fx<|?_
 obtain M := gq H
 subst j
 refine ⟨(.inl Z), [(sv d)], ⟨(sv d), _, Z, Z, Z⟩, ?_⟩
 exact Sd ⟨d, Z, Z, B⟩
theorem DV (p0 : ad8) (j : SV) (n : ae5) (H : rO p0 = some n) (K : Kp) (G : List Ent) (z : Slr f4 K (sv j) p0) :
  Fc Tryz.prog 37 #[(sv j)] K (G) (fun v f e => ∃ (s : SV), v = (sv s) ∧ (.tok 91 2 [(sv s)]) :: G = e ∧ Slr gy f (sv s) n) := by
 refine fN Tryz.func37 Z Tryz.ntmps37 Tryz.results37 Z ?_
 unfold rO at H
 refine fc<|fa<|Ea Z<|fb<|fc<|fa<|Ea Z<|fb<|?_
 refine fz (fun o f e => ∃ (c : SV) (r : ae5), [(3, (sv c))] = o ∧ (.tok 91 2 [(sv c)]) :: G = e ∧ vZ r = some n ∧ Slr gy f (sv c) r) ?_ ?_
 ·refine fc<|fa<|Em Z<|?_
  obtain ⟨t, Q, H⟩ := bnd H
  refine fe Z (Ek Tryz.call66 Z (Dw p0 j t Q _ _ z) ?_)
  rintro _ X _ I ⟨D, rfl, rfl, A⟩
  refine Eq Z (ge (T := gy) A Z Z)<|Em Z<|fb<|fA<|?_
  refine fY (fun n210 o f e => ∃ (d : SV) (i : ae5) (b : Int), [(0, (sv j)), (3, (sv d)), (9, (sv D)), (10, (Vi (t.length : Int))), (11, (Vi b))] = o ∧ (.tok 91 2 [(sv d)]) :: (.tok 91 2 [(sv D)]) :: G = e ∧ lp2 (v6 p0 t) n210 i b = some n ∧ Slr gy f (sv d) i) BIG ?_ ?_
  ·exact Shift.nilTok1 91 2<|Pu1<|Pu1<|Sd<|⟨_, by exact R5, fB, ([] : ae5), 0, Z, Z, H, (Slr.nil gy _)⟩
  rintro n210 _ Y _ u ⟨d, i, b, rfl, rfl, H, p⟩
  obtain ⟨ai, ah, rfl, y, H⟩ := jC H
  unfold v6 at H
  refine fc<|fa<|Ec Z<|fb<|fc<|?_
  refine fm Z ?_ ?_
  ·intro g
   obtain ⟨g, H⟩ := It g H
   refine ft<|fc<|fA<|fc<|fa<|?_
   obtain ⟨a, C, H⟩ := bnd H
   have B := A.mono u
   obtain ⟨_, rfl, J⟩ := Slr.at B C
   refine Eq Z (Qi (T := gy) B C Z)<|EL 2 (gv a) Z (Rdc.k J Z)<|?_
   refine fe Z (fD (cs := (gv (A2Int.mk 0 0))) Z Z Z Z (fun ac => ?_))
   refine fe Z (Sa (gv a) Z .here Z ?_)
   refine fb<|fc<|fa<|Em Z<|Eq Z (gA (q := 0) (m := 0) Z Z Z Z Z (by decide) Z (by decide))<|El (Vi a.x0) Z (Rb0 Z)<|Eq Z (gA (q := 1) (m := 1) Z Z Z Z Z (by decide) Z (by decide))<|El (Vi a.x1) Z (Rb0 Z)<|?_
   obtain ⟨E, V, R, H⟩ := iw H
   have M := (z.mono I).mono u
   refine fe Z (Ek Tryz.call56 Z (Bd p0 j a.x0 a.x1 E V R _ _ M) ?_)
   rintro _ F _ w ⟨rfl, rfl⟩
   refine Em Z<|Ex Z<|Ex Z<|?_
   refine fe Z (fD (cs := (ff (Result.mk 0 0 0 false 0))) Z Z Z Z (fun ad => ?_))
   refine fe Z (Sa (ff E) Z .here Z ?_)
   refine Ea Z<|fb<|fc<|fa<|Em Z<|Ec Z<|fb<|?_
   refine fm Z ?_ ?_
   ·intro h
    obtain ⟨h, H⟩ := It h H
    refine fa<|Em Z<|EL 2 (gv a) Z (Rb1 Z)<|?_
    have x : RowR gy F [(gv a)] [a] := RowR.cons Z (RowR.nil)
    refine fe Z (gh (T := gy) (rows := [(gv a)]) (l := [a]) Z Z Z x Z Z Z Z Z Z Z Z (fun aj => ?_))
    obtain ⟨W, S, H⟩ := bnd H
    have O := p.mono w
    refine fe Z (f8 (T := gy) (bytes := 16) (q := 0) Z Z Z O Mb3 Z (SrcT.row Mb0 x Z) S Z Z Z Z Z Z Z Z (fun U aa af N => ⟨_, (.there (.there (.there .here))), ?_⟩))
    refine Ow.shift (Re0 (Sd ?_))
    exact Ea Z<|fb<|fa<|Er (wI (b + 1)) Z<|Em Z<|fb<|Pu3<|Pu3<|Re2<|Re2<|Sd<|⟨_, by exact R5, _, Nat.lt_succ_self _, U, W, (wI (b + 1)), Z, Z, (y ▸ H), N⟩
   ·intro h
    obtain ⟨h, H⟩ := If h H
    refine ft<|fa<|Er (wI (b + 1)) Z<|Em Z<|fb<|Pu3<|Pu3<|Re2<|Re2<|?_
    have P := p.mono w
    exact Sd ⟨_, by exact R5, _, Nat.lt_succ_self _, d, i, (wI (b + 1)), Z, Z, (y ▸ H), P⟩
  ·intro g
   obtain ⟨g, H⟩ := If g H
   exact f5<|Re1<|Sd<|⟨_, by exact R1, d, i, Z, Z, H, p⟩
 rintro _ ab _ ag ⟨c, r, rfl, rfl, H, L⟩
 unfold vZ at H
 refine fc<|fa<|Em Z<|Ea Z<|fb<|fx<|?_
 obtain ae := gq H
 subst n
 refine ⟨(.inl Z), [(sv c)], ⟨(sv c), _, Z, Z, Z⟩, ?_⟩
 exact Sd ⟨c, Z, Z, L⟩
theorem yE (p0 : ae8) (J : SV) (p1 : ad8) (w : SV) (z : af0) (A : Bool) (B : ad0) (H : nT p0 p1 = some (z, A, B)) (K : Kp) (G : List Ent) (an : Slr (Ty.sl gR) K (sv J) p0) (ao : Slr f4 K (sv w) p1) :
  Fc Tryz.prog 28 #[(sv J), (sv w)] K (G) (fun v p o => ∃ (ay : Nat) (aZ : SV) (az : Nat) (aA : Array MapEntry) (a2 : Nat), v = (Vp ay) ∧ (.obj az (.map aA a2)) :: (.blk ay 84 [(sv aZ), (.bool A), .nilFunc, (.map (some az)), (sv fB)]) :: G = o ∧ Slr (Ty.sl fM) p (sv aZ) z ∧ MapR Ty.bool Value.string p aA B) := by
 refine fN Tryz.func28 Z Tryz.ntmps28 Tryz.results28 Z ?_
 unfold nT at H
 refine fc<|fa<|Ea Z<|fb<|fc<|fa<|Em Z<|Eq Z (ge (T := (Ty.sl gR)) an Z Z)<|?_
 obtain ⟨bQ, aT, H⟩ := bnd H
 refine fe Z (jw (T := (Ty.sl fM)) (r := [(sv fB)]) Z Z Z aT Z Z Z Z Z Z Z Z Z ⟨fB, Z, (Slr.nil fM _)⟩ (fun f bN cc bJ => ?_))
 obtain ⟨aY, bO, aP, bu, bd⟩ := NestR.new fM K aT
 obtain rfl : bN = aY.map one := by rw [bJ, aP]; exact kH.symm
 refine Ow.shift (Shift.nestNew aP bu 120 14 (Sd ?_))
 refine fe Z (B5 Ty.bool Value.string Z (fun j I F a6 => ?_))
 refine Eq Z (fG (cs := [(sv f), (.bool false), .nilFunc, (.map (some j)), (sv fB)]) Z Z Z Z Z Z) ?_
 refine fe Z (fU (cs := [(sv f), (.bool false), .nilFunc, (.map (some j)), (sv fB)]) Z Z Z (fun m => ?_))
 refine Ea Z<|fb<|?_
 refine fz (fun t p o => ∃ (av : af0) (ak : List Value) (aw : List (List (List Value))), [(5, (Vp m))] = t ∧ (.blk m 84 [(sv f), (.bool false), .nilFunc, (.map (some j)), (sv fB)]) :: (.row (sv f) 121 1 (ak.map one).flatten) :: (.rws 120 14 ak (aw.map List.flatten)) :: (.obj j (.map I F)) :: G = o ∧ vg av = some (z, A, B) ∧ NestR fM p ak aw av) ?_ ?_
 ·refine fc<|fa<|Em Z<|Eq Z (ge (T := (Ty.sl gR)) an Z Z)<|Em Z<|fb<|fA<|?_
  refine fY (fun aV t p o => ∃ (a : Int) (V : af0) (P : List Value) (W : List (List (List Value))), [(0, (sv J)), (1, (sv w)), (5, (Vp m)), (17, (Vi (p0.length : Int))), (18, (Vi a))] = t ∧ (.blk m 84 [(sv f), (.bool false), .nilFunc, (.map (some j)), (sv fB)]) :: (.row (sv f) 121 1 (P.map one).flatten) :: (.rws 120 14 P (W.map List.flatten)) :: (.obj j (.map I F)) :: G = o ∧ lp2 (vk p0 p1) aV a V = some (z, A, B) ∧ NestR fM p P W V) BIG ?_ ?_
  ·exact Pu1<|Pu2<|Pu3<|Pu3<|Sd<|⟨_, by exact R5, 0, bQ, aY, bO, Z, Z, H, bd⟩
  rintro aV _ bR _ aa ⟨a, V, P, W, rfl, rfl, H, aB⟩
  obtain ⟨cg, ae, rfl, bl, H⟩ := jC H
  unfold vk at H
  refine fc<|fa<|Ec Z<|fb<|fc<|?_
  refine fm Z ?_ ?_
  ·intro R
   obtain ⟨R, H⟩ := It R H
   refine ft ?_
   refine fz (fun t p o => ∃ (af : af0) (X : List Value) (ah : List (List (List Value))), [(0, (sv J)), (1, (sv w)), (5, (Vp m)), (17, (Vi (p0.length : Int))), (18, (Vi a))] = t ∧ (.blk m 84 [(sv f), (.bool false), .nilFunc, (.map (some j)), (sv fB)]) :: (.row (sv f) 121 1 (X.map one).flatten) :: (.rws 120 14 X (ah.map List.flatten)) :: (.obj j (.map I F)) :: G = o ∧ nS p0 p1 a ae af = some (z, A, B) ∧ NestR fM p X ah af) ?_ ?_
   ·refine fA<|fc<|fa<|Em Z<|Ea Z<|fb<|fc<|fa<|Em Z<|Em Z<|?_
    obtain ⟨Q, aQ, H⟩ := bnd H
    have aM := an.mono aa
    obtain ⟨ci, br, bj⟩ := Slr.at aM aQ
    obtain ⟨aj, rfl, aN⟩ := br
    refine Eq Z (Qi (T := (Ty.sl gR)) aM aQ Z)<|El (sv aj) Z (Rdc.k bj Z)<|Eq Z (ge (T := gR) aN Z Z)<|Em Z<|fb<|fA<|?_
    refine fY (fun aW t p o => ∃ (q : Int) (x : af0) (g : List Value) (y : List (List (List Value))), [(0, (sv J)), (1, (sv w)), (5, (Vp m)), (6, (Vi a)), (17, (Vi (p0.length : Int))), (18, (Vi a)), (24, (sv aj)), (25, (Vi (Q.length : Int))), (26, (Vi q))] = t ∧ (.blk m 84 [(sv f), (.bool false), .nilFunc, (.map (some j)), (sv fB)]) :: (.row (sv f) 121 1 (g.map one).flatten) :: (.rws 120 14 g (y.map List.flatten)) :: (.obj j (.map I F)) :: G = o ∧ lp2 (vj p0 p1 a Q ae) aW q x = some (z, A, B) ∧ NestR fM p g y x) BIG ?_ ?_
    ·exact Pu3<|Pu3<|Pu3<|Pu3<|Sd<|⟨_, by exact R9, 0, V, P, W, Z, Z, H, aB⟩
    rintro aW _ bS _ ab ⟨q, x, g, y, rfl, rfl, H, ac⟩
    obtain ⟨ch, aU, rfl, bm, H⟩ := jC H
    unfold vj at H
    refine fc<|fa<|Ec Z<|fb<|fc<|?_
    refine fm Z ?_ ?_
    ·intro S
     obtain ⟨S, H⟩ := It S H
     refine ft ?_
     refine fz (fun t p o => ∃ (ag : af0) (Y : List Value) (ai : List (List (List Value))), [(0, (sv J)), (1, (sv w)), (5, (Vp m)), (6, (Vi a)), (17, (Vi (p0.length : Int))), (18, (Vi a)), (24, (sv aj)), (25, (Vi (Q.length : Int))), (26, (Vi q))] = t ∧ (.blk m 84 [(sv f), (.bool false), .nilFunc, (.map (some j)), (sv fB)]) :: (.row (sv f) 121 1 (Y.map one).flatten) :: (.rws 120 14 Y (ai.map List.flatten)) :: (.obj j (.map I F)) :: G = o ∧ vh p0 p1 a Q q ae aU ag = some (z, A, B) ∧ NestR fM p Y ai ag) ?_ ?_
     ·refine fA<|fc<|fa<|Em Z<|?_
      obtain ⟨b, aR, H⟩ := bnd H
      have aO := aN.mono ab
      obtain ⟨cj, bs, bk⟩ := Slr.at aO aR
      obtain ⟨c, d, rfl, aq, ar⟩ := bs
      refine Eq Z (Qi (T := gR) aO aR Z)<|EL 7 (fj b c d) Z (Rdc.k bk Z)<|?_
      refine fe Z (fD (cs := (fj (Op.mk 0 0 0 0 0 [] []) fB fB)) Z Z Z Z (fun b1 => ?_))
      refine Ea Z ?_
      refine fe Z (Sa (fj b c d) Z .here Z ?_)
      refine fb ?_
      refine fz (fun t p o => ∃ (am : Nat) (e : Int), [(0, (sv J)), (1, (sv w)), (5, (Vp m)), (6, (Vi a)), (7, (Vi q)), (9, (Vp am)), (17, (Vi (p0.length : Int))), (18, (Vi a)), (24, (sv aj)), (25, (Vi (Q.length : Int))), (26, (Vi q))] = t ∧ (.blk am 120 (fh (fp.mk b (Result.mk 0 0 0 false 0) e 0) c d)) :: (.blk m 84 [(sv f), (.bool false), .nilFunc, (.map (some j)), (sv fB)]) :: (.row (sv f) 121 1 (g.map one).flatten) :: (.rws 120 14 g (y.map List.flatten)) :: (.obj j (.map I F)) :: G = o ∧ vi p0 p1 a q Q b x ae aU e = some (z, A, B)) ?_ ?_
      ·obtain ⟨E, aS, H⟩ := bnd H
       refine fw _ Z (Ic Mb0 (Ic Mb1 (Ic Mb2 (Ic Mb3 (Ic Mb4 In0)))))<|JL 0 7 (fj b c d) Z (Rb0 Z)<|Jm 1 Z<|Jm 2 Z<|Jm 3 Z<|?_
       refine gW 4 6 (by kernel_rfl) ?_ ?_
       ·refine id (Jy Z ?_)
        have bv := (ao.mono aa).mono ab
        refine Ek Tryz.call55 Z (yV p1 w a q E aS _ _ bv) ?_
        rintro _ bT _ b5 ⟨rfl, rfl⟩
        refine ⟨(Ic Mb0 (Ic Mb1 (Ic Mb2 (Ic Mb3 (Ic Mb4 In0))))), ?_⟩
        refine Jq 5 Z (fG (cs := (fh (fp.mk b (Result.mk 0 0 0 false 0) E 0) c d)) Z Z Z Z Z Z) ?_
        refine Ao 6 Z ?_
        refine fD (cs := (fh (fp.mk (Op.mk 0 0 0 0 0 [] []) (Result.mk 0 0 0 false 0) 0 0) fB fB)) Z Z Z Z (fun a0 => ⟨(Ic Mb1 (Ic Mb2 (Ic Mb3 (Ic Mb4 (Ic Mb5 In0))))), ?_⟩)
        refine Ao 7 Z ?_
        refine Sa (fh (fp.mk b (Result.mk 0 0 0 false 0) E 0) c d) Z .here Z ⟨(Ic Mb1 (Ic Mb2 (Ic Mb3 (Ic Mb4 (Ic Mb5 In0))))), ?_⟩
        exact Ad<|Pu5<|Pu5<|Pu5<|Pu5<|Pu4<|Re5<|Sd<|⟨_, by exact R11, a0, E, Z, Z, H⟩
       ·refine id (Jy Z ?_)
        refine fD (cs := (fh (fp.mk (Op.mk 0 0 0 0 0 [] []) (Result.mk 0 0 0 false 0) 0 0) fB fB)) Z Z Z Z (fun a1 => ⟨(Ic Mb1 (Ic Mb2 (Ic Mb3 (Ic Mb4 (Ic Mb5 In0))))), ?_⟩)
        refine Ao 4 Z ?_
        have bw := (ao.mono aa).mono ab
        refine Ek Tryz.call55 Z (yV p1 w a q E aS _ _ bw) ?_
        rintro _ bU _ b6 ⟨rfl, rfl⟩
        refine ⟨(Ic Mb1 (Ic Mb2 (Ic Mb3 (Ic Mb4 (Ic Mb5 In0))))), ?_⟩
        refine Jq 5 Z (fG (cs := (fh (fp.mk b (Result.mk 0 0 0 false 0) E 0) c d)) Z Z Z Z Z Z) ?_
        refine Ao 7 Z ?_
        refine Sa (fh (fp.mk b (Result.mk 0 0 0 false 0) E 0) c d) Z .here Z ⟨(Ic Mb1 (Ic Mb2 (Ic Mb3 (Ic Mb4 (Ic Mb5 In0))))), ?_⟩
        exact Ad<|Pu5<|Pu5<|Pu5<|Pu5<|Pu4<|Re5<|Sd<|⟨_, by exact R11, a1, E, Z, Z, H⟩
      rintro _ bV _ u ⟨am, e, rfl, rfl, H⟩
      unfold vi at H
      refine fc<|fc<|fa<|EF 12 Z<|El (Vi e) Z (Rb0 Z)<|Ec Z<|fb<|?_
      refine fm Z ?_ ?_
      ·intro U
       obtain ⟨U, H⟩ := It U H
       refine f5<|Pu4<|Pu4<|Pu4<|Pu4<|Re4<|?_
       have bx := ac.mono u
       exact Sd ⟨_, by exact R5, x, g, y, Z, Z, H, bx⟩
      ·intro U
       obtain ⟨U, H⟩ := If U H
       refine ft<|fc<|fa<|Em Z<|Em Z<|Em Z<|?_
       obtain ⟨h, i, bI, H⟩ := iw H
       have bz := ((ao.mono aa).mono ab).mono u
       refine fe Z (Ek Tryz.call56 Z (Bd p1 w a q h i bI _ _ bz) ?_)
       rintro _ al _ C ⟨rfl, rfl⟩
       refine Em Z<|Ex Z<|Ex Z<|EF 7 Z<|?_
       refine fe Z (So (ff h) (fh (fp.mk b h e 0) c d) Z .here Z ?_)
       refine EF 13 Z ?_
       refine fe Z (So [(Vi i)] (fh (fp.mk b h e i) c d) Z .here Z ?_)
       refine fb ?_
       obtain ⟨cw, ad, H⟩ := bnd H
       obtain ⟨ax, au, H⟩ := bnd H
       obtain ⟨cx, L, H⟩ := bnd H
       refine fw _ Z (Ic Mb0 (Ic Mb1 (Ic Mb4 In0)))<|Jm 0 Z<|Jq 1 Z (fC Z)<|JF 2 0 Z<|Jl 3 (sv f) Z (Rb1 Z)<|Jm 4 Z<|Jm 5 Z<|Jq 6 Z (fC Z)<|JF 7 0 Z<|Jl 8 (sv f) Z (Rb1 Z)<|Jm 9 Z<|JL 12 14 (fh (fp.mk b h e i) c d) Z (Rb0 Z)<|?_
       refine gW 10 13 (by kernel_rfl) ?_ ?_
       ·have n := (ac.mono u).mono C
        obtain ⟨aX, ck, ap, aK, aL, aC⟩ := NestR.at n ad
        refine id (Jyq Z (gP (T := qo) Mb2 n.heads ap (fR ad).1 Z Z Z Z Z) ⟨(Ic Mb0 (Ic Mb1 (Ic Mb4 In0))), ?_⟩)
        refine gW 11 13 (by kernel_rfl) ?_ ?_
        ·refine Jy Z ?_
         refine OpW.shift (Shift.nestTake (.there (.there (.there .here))) aK aL (Sd ?_))
         refine l6 Z Z (gr (v := (sv aX)) Z Z Z (ib (T := qo) Mb4 n.heads ap Z Z)) ⟨(Ic Mb2 (Ic Mb3 (Ic Mb5 In0))), ?_⟩
         refine Ao 13 Z ?_
         have bA := (aq.mono u).mono C
         have bB := (ar.mono u).mono C
         have aD : RowR fM al [(fh (fp.mk b h e i) c d)] [(fp.mk b h e i)] := RowR.cons ⟨c, d, Z, bA, bB⟩ (RowR.nil)
         refine gh (T := fM) (rows := [(fh (fp.mk b h e i) c d)]) (l := [(fp.mk b h e i)]) Z Z Z aD Z Z Z Z Z Z Z Z (fun ct => ⟨(Ic Mb3 (Ic Mb4 (Ic Mb6 In0))), ?_⟩)
         refine Ao 14 Z ?_
         refine gZ (T := fM) (bytes := 144) Z Z Z Mb1 aC (SrcT.row Mb0 aD Z) au Z Z Z Z Z Z Z Z (fun M bK be => ⟨_, (.there .here), ⟨(Ic Mb3 (Ic Mb4 (Ic Mb6 In0))), ?_⟩⟩)
         refine Aw.shift (Re0 (Sd ⟨(Ic Mb2 (Ic Mb3 (Ic Mb5 In0))), ?_⟩))
         obtain ⟨cp, cl, aG, bn, cd, b9⟩ := NestR.at n L
         refine gB 15 (by kernel_rfl) (Jyq Z (gP (T := qo) Mb4 n.heads aG (fR L).1 Z Z Z Z Z) ⟨(Ic Mb2 (Ic Mb3 (Ic Mb5 In0))), ?_⟩)
         refine Ao 16 Z ?_
         refine gX (T := qo) (vs := [(sv M)]) (r' := [(sv M)]) (l' := gb g a (sv M)) Z Z Z Z Z (.there (.there (.there (.there .here)))) n.heads aG Z Z Z (RowR.set a n.heads ⟨Z, _, Z⟩) (fun _ => ⟨(Ic Mb2 (Ic Mb3 (Ic Mb5 In0))), ?_⟩)
         have hse := iL g a.toNat (sv M)
         rw [hse]
         clear hse
         have ba := NestR.set (s := M) a n be
         refine Aw.shift (Shift.nestOver .here .here (List.getElem?_eq_some_iff.1 bn).1 (Sd ⟨(Ic Mb1 (Ic Mb2 (Ic Mb4 In0))), ?_⟩))
         exact Ad<|Pu4<|Pu1<|Pu4<|Pu4<|Re4<|Sd<|⟨_, by exact R9, (gb x a ax), (g.set a.toNat (sv M)), (y.set a.toNat bK), Z, Z, H, ba⟩
        ·refine id (Jy Z ?_)
         have bC := (aq.mono u).mono C
         have bD := (ar.mono u).mono C
         have aE : RowR fM al [(fh (fp.mk b h e i) c d)] [(fp.mk b h e i)] := RowR.cons ⟨c, d, Z, bC, bD⟩ (RowR.nil)
         refine gh (T := fM) (rows := [(fh (fp.mk b h e i) c d)]) (l := [(fp.mk b h e i)]) Z Z Z aE Z Z Z Z Z Z Z Z (fun cu => ⟨(Ic Mb1 (Ic Mb2 (Ic Mb5 In0))), ?_⟩)
         refine Aw.shift (Shift.nestTake (.there (.there (.there (.there .here)))) aK aL (Sd ⟨(Ic Mb3 (Ic Mb4 (Ic Mb6 In0))), ?_⟩))
         refine gB 11 (by kernel_rfl) (Jyq Z (gr (v := (sv aX)) Z Z Z (ib (T := qo) Mb5 n.heads ap Z Z)) ⟨(Ic Mb3 (Ic Mb4 (Ic Mb6 In0))), ?_⟩)
         refine Ao 14 Z ?_
         refine gZ (T := fM) (bytes := 144) Z Z Z Mb0 aC (SrcT.row Mb2 aE Z) au Z Z Z Z Z Z Z Z (fun N bL bf => ⟨_, .here, ⟨(Ic Mb3 (Ic Mb4 (Ic Mb6 In0))), ?_⟩⟩)
         refine Aw.shift (Re2 (Sd ⟨(Ic Mb2 (Ic Mb3 (Ic Mb5 In0))), ?_⟩))
         obtain ⟨cq, cm, aH, bo, ce, ca⟩ := NestR.at n L
         refine gB 15 (by kernel_rfl) (Jyq Z (gP (T := qo) Mb4 n.heads aH (fR L).1 Z Z Z Z Z) ⟨(Ic Mb2 (Ic Mb3 (Ic Mb5 In0))), ?_⟩)
         refine Ao 16 Z ?_
         refine gX (T := qo) (vs := [(sv N)]) (r' := [(sv N)]) (l' := gb g a (sv N)) Z Z Z Z Z (.there (.there (.there (.there .here)))) n.heads aH Z Z Z (RowR.set a n.heads ⟨Z, _, Z⟩) (fun _ => ⟨(Ic Mb2 (Ic Mb3 (Ic Mb5 In0))), ?_⟩)
         have hse := iL g a.toNat (sv N)
         rw [hse]
         clear hse
         have bb := NestR.set (s := N) a n bf
         refine Aw.shift (Shift.nestOver .here .here (List.getElem?_eq_some_iff.1 bo).1 (Sd ⟨(Ic Mb1 (Ic Mb2 (Ic Mb4 In0))), ?_⟩))
         exact Ad<|Pu4<|Pu1<|Pu4<|Pu4<|Re4<|Sd<|⟨_, by exact R9, (gb x a ax), (g.set a.toNat (sv N)), (y.set a.toNat bL), Z, Z, H, bb⟩
       ·refine id (Jy Z ?_)
        have bE := (aq.mono u).mono C
        have bF := (ar.mono u).mono C
        have aF : RowR fM al [(fh (fp.mk b h e i) c d)] [(fp.mk b h e i)] := RowR.cons ⟨c, d, Z, bE, bF⟩ (RowR.nil)
        refine gh (T := fM) (rows := [(fh (fp.mk b h e i) c d)]) (l := [(fp.mk b h e i)]) Z Z Z aF Z Z Z Z Z Z Z Z (fun cv => ⟨(Ic Mb1 (Ic Mb2 (Ic Mb5 In0))), ?_⟩)
        have D := (ac.mono u).mono C
        obtain ⟨bP, cn, aI, bp, bt, bg⟩ := NestR.at D ad
        refine gB 10 (by kernel_rfl) (Jyq Z (gP (T := qo) Mb3 D.heads aI (fR ad).1 Z Z Z Z Z) ⟨(Ic Mb1 (Ic Mb2 (Ic Mb5 In0))), ?_⟩)
        refine Aw.shift (Shift.nestTake (.there (.there (.there (.there .here)))) bp bt (Sd ⟨(Ic Mb3 (Ic Mb4 (Ic Mb6 In0))), ?_⟩))
        refine gB 11 (by kernel_rfl) (Jyq Z (gr (v := (sv bP)) Z Z Z (ib (T := qo) Mb5 D.heads aI Z Z)) ⟨(Ic Mb3 (Ic Mb4 (Ic Mb6 In0))), ?_⟩)
        refine Ao 14 Z ?_
        refine gZ (T := fM) (bytes := 144) Z Z Z Mb0 bg (SrcT.row Mb2 aF Z) au Z Z Z Z Z Z Z Z (fun O bM bh => ⟨_, .here, ⟨(Ic Mb3 (Ic Mb4 (Ic Mb6 In0))), ?_⟩⟩)
        refine Aw.shift (Re2 (Sd ⟨(Ic Mb2 (Ic Mb3 (Ic Mb5 In0))), ?_⟩))
        obtain ⟨cr, co, aJ, bq, cf, cb⟩ := NestR.at D L
        refine gB 15 (by kernel_rfl) (Jyq Z (gP (T := qo) Mb4 D.heads aJ (fR L).1 Z Z Z Z Z) ⟨(Ic Mb2 (Ic Mb3 (Ic Mb5 In0))), ?_⟩)
        refine Ao 16 Z ?_
        refine gX (T := qo) (vs := [(sv O)]) (r' := [(sv O)]) (l' := gb g a (sv O)) Z Z Z Z Z (.there (.there (.there (.there .here)))) D.heads aJ Z Z Z (RowR.set a D.heads ⟨Z, _, Z⟩) (fun _ => ⟨(Ic Mb2 (Ic Mb3 (Ic Mb5 In0))), ?_⟩)
        have hse := iL g a.toNat (sv O)
        rw [hse]
        clear hse
        have bc := NestR.set (s := O) a D bh
        refine Aw.shift (Shift.nestOver .here .here (List.getElem?_eq_some_iff.1 bq).1 (Sd ⟨(Ic Mb1 (Ic Mb2 (Ic Mb4 In0))), ?_⟩))
        exact Ad<|Pu4<|Pu1<|Pu4<|Pu4<|Re4<|Sd<|⟨_, by exact R9, (gb x a ax), (g.set a.toNat (sv O)), (y.set a.toNat bM), Z, Z, H, bc⟩
     rintro _ bW _ b7 ⟨ag, Y, ai, rfl, rfl, H, a9⟩
     unfold vh at H
     exact fa<|Er (wI (q + 1)) Z<|Em Z<|fb<|Pu3<|Pu3<|Pu3<|Pu3<|Sd<|⟨_, by exact R9, _, Nat.lt_succ_self _, (wI (q + 1)), ag, Y, ai, Z, Z, (bm ▸ H), a9⟩
    ·intro S
     obtain ⟨S, H⟩ := If S H
     exact f5<|Pu3<|Pu3<|Pu3<|Pu3<|Sd<|⟨_, by exact R5, x, g, y, Z, Z, H, ac⟩
   rintro _ bX _ b8 ⟨af, X, ah, rfl, rfl, H, a8⟩
   unfold nS at H
   exact fa<|Er (wI (a + 1)) Z<|Em Z<|fb<|Pu3<|Pu3<|Pu3<|Pu3<|Sd<|⟨_, by exact R5, _, Nat.lt_succ_self _, (wI (a + 1)), af, X, ah, Z, Z, (bl ▸ H), a8⟩
  ·intro R
   obtain ⟨R, H⟩ := If R H
   exact f5<|Pu3<|Pu3<|Pu3<|Pu3<|Sd<|⟨_, by exact R1, V, P, W, Z, Z, H, aB⟩
 rintro _ bY _ a3 ⟨av, ak, aw, rfl, rfl, H, a7⟩
 unfold vg at H
 refine fc<|fa<|Em Z<|Ea Z<|fb<|fx<|?_
 obtain ⟨b2, b3, b4⟩ := jq H
 subst z A B
 refine ⟨(.inl Z), [(Vp m)], ⟨(Vp m), _, Z, Z, Z⟩, ?_⟩
 refine Shift.nestSettle (T := fM) Z (.there (.there .here)) a7 ?_
 intro bZ a4 bi
 refine Shift.settle (T := (Ty.sl fM)) (.there .here) bi Z ?_
 intro b0 a5 bG
 refine Pu2<|Re2<|?_
 have bH := ((a6.mono a3).mono a4).mono a5
 exact Sd ⟨m, f, j, I, F, Z, Z, bG, bH⟩
theorem Dy (l : Nat) (g : af0) (d : SV) (c : Bool) (u : ad0) (a : Nat) (m : Array MapEntry) (s : Nat) (w : ad9) (b : SV) (o : List (List Value)) (p1 : ad2) (y : SV) (p : Int) (q : Bool) (H : qO g c u w p1 = some (p, q)) (K : Kp) (G : List Ent) (aa : Slr (Ty.sl fM) K (sv d) g) (aB : MapR Ty.bool Value.string K m u) (aC : RowR fO K o w) (ap : Slr Ty.i64 K (sv y) p1) :
  Fc Tryz.prog 57 #[(Vp l), (sv y)] K ((.blk l 84 [(sv d), (.bool c), .nilFunc, (.map (some a)), (sv b)]) :: (.obj a (.map m s)) :: (.row (sv b) 67 6 o.flatten) :: G) (fun v r e => v = (.tuple #[(Vi p), (.bool q)]) ∧ (.blk l 84 [(sv d), (.bool c), .nilFunc, (.map (some a)), (sv b)]) :: (.obj a (.map m s)) :: (.row (sv b) 67 6 o.flatten) :: G = e) := by
 refine fN Tryz.func57 Z Tryz.ntmps57 Tryz.results57 Z ?_
 unfold qO at H
 refine fc<|fa<|Ea Z<|Ea Z<|fb<|fc<|fa<|Ea Z<|Ea Z<|fb<|?_
 refine fz (fun h r e => ∃ (C : Int) (E : Bool), [(6, (Vi C)), (7, (.bool E))] = h ∧ (.blk l 84 [(sv d), (.bool c), .nilFunc, (.map (some a)), (sv b)]) :: (.obj a (.map m s)) :: (.row (sv b) 67 6 o.flatten) :: G = e ∧ vm g c w u C E = some (p, q)) ?_ ?_
 ·refine fc<|fa<|Em Z<|Eq Z (fC Z)<|EF 0 Z<|El (sv d) Z (Rb0 Z)<|Eq Z (ge (T := (Ty.sl fM)) aa Z Z)<|Em Z<|fb<|fA<|?_
  refine fY (fun ai h r e => ∃ (D : Int) (F : Bool) (f : Int), [(1, (sv y)), (6, (Vi D)), (7, (.bool F)), (15, (sv d)), (16, (Vi (g.length : Int))), (17, (Vi f))] = h ∧ (.blk l 84 [(sv d), (.bool c), .nilFunc, (.map (some a)), (sv b)]) :: (.obj a (.map m s)) :: (.row (sv b) 67 6 o.flatten) :: G = e ∧ lp3 (vp p1 g c w u) ai D F f = some (p, q)) BIG ?_ ?_
  ·exact Pu2<|Pu2<|Pu2<|Sd<|⟨_, by exact R6, 0, false, 0, Z, Z, H⟩
  rintro ai _ V _ X ⟨D, F, f, rfl, rfl, H⟩
  obtain ⟨aF, O, rfl, ao, H⟩ := pq H
  unfold vp at H
  refine fc<|fa<|Ec Z<|fb<|fc<|?_
  refine fm Z ?_ ?_
  ·intro z
   obtain ⟨z, H⟩ := It z H
   refine ft ?_
   refine fz (fun h r e => ∃ (I : Int) (J : Bool), [(1, (sv y)), (6, (Vi I)), (7, (.bool J)), (15, (sv d)), (16, (Vi (g.length : Int))), (17, (Vi f))] = h ∧ (.blk l 84 [(sv d), (.bool c), .nilFunc, (.map (some a)), (sv b)]) :: (.obj a (.map m s)) :: (.row (sv b) 67 6 o.flatten) :: G = e ∧ vn p1 g f c w u O I J = some (p, q)) ?_ ?_
   ·refine fA<|fc<|fa<|Em Z<|?_
    obtain ⟨ak, ae, H⟩ := bnd H
    have ab := aa.mono X
    obtain ⟨aH, aq, al⟩ := Slr.at ab ae
    obtain ⟨Q, rfl, ac⟩ := aq
    refine Eq Z (Qi (T := (Ty.sl fM)) ab ae Z)<|El (sv Q) Z (Rdc.k al Z)<|Ea Z<|Ea Z<|fb<|fc<|fa<|Em Z<|Em Z<|Em Z<|?_
    obtain ⟨U, af, H⟩ := bnd H
    have ad := ap.mono X
    obtain ⟨_, rfl, am⟩ := Slr.at ad af
    refine Eq Z (Qi (T := Ty.i64) ad af Z)<|El (Vi U) Z (Rdc.k am Z)<|?_
    obtain ⟨L, ag, H⟩ := bnd H
    have N := Slr.cutL ac ag
    refine Eq Z (lg (T := fM) ac ag Z Z Z Z Z)<|Eq Z (ge (T := fM) N Z Z)<|Em Z<|fb<|fA<|?_
    refine fY (fun aj h r e => ∃ (n : Int) (x : Bool) (i : Int), [(1, (sv y)), (6, (Vi n)), (7, (.bool x)), (15, (sv d)), (16, (Vi (g.length : Int))), (17, (Vi f)), (27, (sv (iR Q 14 U.toNat ak.length))), (28, (Vi (L.length : Int))), (29, (Vi i))] = h ∧ V = r ∧ (.blk l 84 [(sv d), (.bool c), .nilFunc, (.map (some a)), (sv b)]) :: (.obj a (.map m s)) :: (.row (sv b) 67 6 o.flatten) :: G = e ∧ lp3 (vo p1 g f L c w u O) aj n x i = some (p, q)) BIG ?_ ?_
    ·exact Pu2<|Pu2<|Pu2<|Sd<|⟨_, by exact R9, D, F, 0, Z, Z, Z, H⟩
    rintro aj _ _ _ - ⟨n, x, i, rfl, rfl, rfl, H⟩
    obtain ⟨aG, au, rfl, Y, H⟩ := pq H
    unfold vo at H
    refine fc<|fa<|Ec Z<|fb<|fc<|?_
    refine fm Z ?_ ?_
    ·intro A
     obtain ⟨A, H⟩ := It A H
     refine ft<|fc<|fA<|fc<|fa<|?_
     obtain ⟨j, ah, H⟩ := bnd H
     obtain ⟨aI, ar, an⟩ := Slr.at N ah
     obtain ⟨R, S, rfl, aD, aE⟩ := ar
     refine Eq Z (Qi (T := fM) N ah Z)<|EL 14 (fh j R S) Z (Rdc.k an Z)<|?_
     refine fe Z (fD (cs := (fh (fp.mk (Op.mk 0 0 0 0 0 [] []) (Result.mk 0 0 0 false 0) 0 0) fB fB)) Z Z Z Z (fun W => ?_))
     refine fe Z (Sa (fh j R S) Z .here Z ?_)
     refine fb ?_
     refine fz (fun h r e => ∃ (P : Bool), [(1, (sv y)), (6, (Vi n)), (7, (.bool x)), (11, (Vp W)), (15, (sv d)), (16, (Vi (g.length : Int))), (17, (Vi f)), (27, (sv (iR Q 14 U.toNat ak.length))), (28, (Vi (L.length : Int))), (29, (Vi i)), (45, (.bool P))] = h ∧ V = r ∧ (.blk l 84 [(sv d), (.bool c), .nilFunc, (.map (some a)), (sv b)]) :: (.blk W 120 (fh j R S)) :: (.obj a (.map m s)) :: (.row (sv b) 67 6 o.flatten) :: G = e ∧ sK p1 n x g f L i c w j u O au P = some (p, q)) ?_ ?_
     ·refine fa<|EF 13 Z<|El (Vi j.coming) Z (Rb0 Z)<|Ec Z<|Em Z<|?_
      refine Ee Z ?_ ?_
      ·intro B
       obtain ⟨B, H⟩ := It B H
       refine Vm Z<|Vq Z (gf Z)<|Vm Z<|?_
       refine Ee Z ?_ ?_
       ·intro t
        have t := iv t
        have H := f0 (btf t) H
        exact Ez Z<|Ez Z<|Ez Z<|Ez Z<|Vt Z<|Et Z<|fb<|Pu3<|Pu3<|Pu2<|Pu3<|Sd<|⟨_, by exact R11, true, Z, Z, Z, H⟩
       ·intro t
        have t := ir t
        have H := ift t H
        exact VF 13 Z<|Vl (Vi j.coming) Z (Rb0 Z)<|Vm Z<|Vc Z<|Vf Z<|Et Z<|fb<|Pu3<|Pu3<|Pu2<|Pu3<|Sd<|⟨_, by exact R11, (dcd (j.coming < n)), Z, Z, Z, H⟩
      ·intro B
       obtain ⟨B, H⟩ := If B H
       exact Ez Z<|Ez Z<|Ez Z<|ga Z Z Z Z rfl<|ga Z Z Z Z rfl<|ga Z Z Z Z rfl<|ga Z Z Z Z rfl<|Ez Z<|Ef Z<|fb<|Pu3<|Pu3<|Pu2<|Pu3<|Sd<|⟨_, by exact R11, false, Z, Z, Z, H⟩
     rintro _ _ _ - ⟨P, rfl, rfl, rfl, H⟩
     unfold sK at H
     refine fm Z ?_ ?_
     ·intro M
      have H := ift M H
      exact fa<|EF 13 Z<|El (Vi j.coming) Z (Rb1 Z)<|Ea Z<|Ea Z<|fb<|fa<|Er (wI (i + 1)) Z<|Em Z<|fb<|Pu3<|Pu3<|Pu2<|Re3<|Sd<|⟨_, by exact R9, _, Nat.lt_succ_self _, j.coming, true, (wI (i + 1)), Z, Z, Z, (Y ▸ H)⟩
     ·intro M
      have H := f0 (btf M) H
      exact ft<|fa<|Er (wI (i + 1)) Z<|Em Z<|fb<|Pu3<|Pu3<|Pu2<|Re3<|Sd<|⟨_, by exact R9, _, Nat.lt_succ_self _, n, x, (wI (i + 1)), Z, Z, Z, (Y ▸ H)⟩
    ·intro A
     obtain ⟨A, H⟩ := If A H
     exact f5<|Pu2<|Pu2<|Pu2<|Sd<|⟨_, by exact R6, n, x, Z, Z, H⟩
   rintro _ av _ az ⟨I, J, rfl, rfl, H⟩
   unfold vn at H
   exact fa<|Er (wI (f + 1)) Z<|Em Z<|fb<|Pu2<|Pu2<|Pu2<|Sd<|⟨_, by exact R6, _, Nat.lt_succ_self _, I, J, (wI (f + 1)), Z, Z, (ao ▸ H)⟩
  ·intro z
   obtain ⟨z, H⟩ := If z H
   exact f5<|Pu2<|Pu2<|Pu2<|Sd<|⟨_, by exact R2, D, F, Z, Z, H⟩
 rintro _ aw _ aA ⟨C, E, rfl, rfl, H⟩
 unfold vm at H
 refine fc<|fa<|Em Z<|Em Z<|Ea Z<|Ea Z<|fb<|fx<|?_
 obtain ⟨ax, ay⟩ := ic H
 subst p q
 refine ⟨(.inl Z), [(Vi C), (.bool E)], ⟨(Vi C), _, Z, Z, ⟨(.bool E), _, Z, Z, Z⟩⟩, ?_⟩
 exact Pu2<|Pu2<|Pu2<|Sd<|⟨Z, Z⟩
theorem Ep (p0 : ad2) (d : SV) (b : List (List Value)) (p1 p2 : Int) (f : ad2) (H : zL p0 p1 p2 = some f) (K : Kp) (G : List Ent) (h : RowR Ty.u8 K b p0) (hT : li K) :
  Fc Tryz.prog 116 #[(sv d), (.int .u64 p1), (Vi p2)] K ((.row (sv d) 5 1 b.flatten) :: G) (fun v a g => ∃ (e : SV) (c : List (List Value)), v = (sv e) ∧ K = a ∧ (.row (sv e) 5 1 c.flatten) :: G = g ∧ RowR Ty.u8 a c f) :=
 qI H h hT
theorem Ed (p0 : ad2) (m : SV) (j : List (List Value)) (p1 p2 : Int) (h : ad2) (H : vq p0 p1 p2 = some h) (K : Kp) (G : List Ent) (o : RowR Ty.u8 K j p0) (hT : li K) :
  Fc Tryz.prog 114 #[(sv m), (Vi p1), (Vi p2)] K ((.row (sv m) 5 1 j.flatten) :: G) (fun v a i => ∃ (q : SV) (p : List (List Value)), v = (sv q) ∧ K = a ∧ (.row (sv q) 5 1 p.flatten) :: G = i ∧ RowR Ty.u8 a p h) := by
 refine fN Tryz.func114 Z Tryz.ntmps114 Tryz.results114 Z ?_
 unfold vq at H
 refine fc<|fa<|Ea Z<|fb<|fc<|fa<|Em Z<|Eq Z (kD (c := wU p1) Z Z Z Z)<|Ea Z<|fb<|?_
 refine fz (fun r a i => ∃ (g : SV) (e : ad2) (f : List (List Value)) (i32 d : Int), [(0, (sv g)), (2, (Vi i32)), (7, (.int .u64 d))] = r ∧ K = a ∧ (.row (sv g) 5 1 f.flatten) :: G = i ∧ qP e i32 d = some h ∧ RowR Ty.u8 a f e) ?_ ?_
 ·refine fc<|fa<|Em Z<|Ec Z<|fb<|?_
  refine fm Z ?_ ?_
  ·intro b
   obtain ⟨b, H⟩ := It b H
   refine fc<|fa<|Em Z<|?_
   have n : RowR Ty.u8 K [[(.int .u8 45)]] [45] := RowR.cons Z (RowR.nil)
   refine fe Z (gh (T := Ty.u8) (rows := [[(.int .u8 45)]]) (l := [45]) Z Z Z n Z Z Z Z Z Z Z Z (fun E => ?_))
   obtain ⟨B, w, H⟩ := bnd H
   refine fe Z (gZ (T := Ty.u8) (bytes := 1) Z Z Z Mb1 o (SrcT.row Mb0 n Z) w Z Z Z Z Z Z Z Z (fun A y t => ⟨_, (.there .here), ?_⟩))
   refine Ow.shift (Re0 (Sd ?_))
   exact Ea Z<|fb<|fa<|Em Z<|Eq Z (Gu (c := wU (0 - (wU p1))) Z Z)<|Ea Z<|fb<|Sd<|⟨_, by exact R3, A, B, y, p2, (wU (0 - (wU p1))), Z, Z, Z, H, t⟩
  ·intro b
   obtain ⟨b, H⟩ := If b H
   exact ft<|Sd<|⟨_, by exact R3, m, p0, j, p2, (wU p1), Z, Z, Z, H, o⟩
 rintro _ _ _ - ⟨g, e, f, i32, d, rfl, rfl, rfl, H, s⟩
 unfold qP at H
 refine fc<|fa<|Em Z<|Em Z<|Em Z<|?_
 obtain ⟨C, x, H⟩ := bnd H
 refine fe Z (Ek Tryz.call116 Z (Ep e g f d i32 C x _ _ s hT) ?_)
 rintro _ _ _ - ⟨k, z, rfl, rfl, rfl, u⟩
 refine Ea Z<|fb<|fx<|?_
 obtain D := gq H
 subst h
 refine ⟨(.inl Z), [(sv k)], ⟨(sv k), _, Z, Z, Z⟩, ?_⟩
 exact Sd ⟨k, z, Z, Z, Z, u⟩
theorem Es (p0 : ad2) (d : SV) (b : List (List Value)) (p1 : Bool) (f : ad2) (H : zM p0 p1 = some f) (K : Kp) (G : List Ent) (h : RowR Ty.u8 K b p0) :
  Fc Tryz.prog 115 #[(sv d), (.bool p1)] K ((.row (sv d) 5 1 b.flatten) :: G) (fun v a g => ∃ (e : SV) (c : List (List Value)), v = (sv e) ∧ K = a ∧ (.row (sv e) 5 1 c.flatten) :: G = g ∧ RowR Ty.u8 a c f) :=
 zI H h
theorem Eu (p0 : ad2) (d : SV) (b : List (List Value)) (p1 p2 : Int) (f : ad2) (H : zN p0 p1 p2 = some f) (K : Kp) (G : List Ent) (h : RowR Ty.u8 K b p0) (hT : li K) :
  Fc Tryz.prog 116 #[(sv d), (.int .u64 p1), (Vi p2)] K ((.row (sv d) 5 1 b.flatten) :: G) (fun v a g => ∃ (e : SV) (c : List (List Value)), v = (sv e) ∧ K = a ∧ (.row (sv e) 5 1 c.flatten) :: G = g ∧ RowR Ty.u8 a c f) :=
 qI H h hT
theorem Dz (p0 : ad2) (c : SV) (a : List (List Value)) (p1 p2 : Int) (d : ad2) (H : qQ p0 p1 p2 = some d) (K : Kp) (G : List Ent) (i : RowR Ty.u8 K a p0) (hT : li K) :
  Fc Tryz.prog 88 #[(sv c), (Vi p1), (Vi p2)] K ((.row (sv c) 5 1 a.flatten) :: G) (fun v e h => ∃ (g : SV) (f : List (List Value)), v = (sv g) ∧ K = e ∧ (.row (sv g) 5 1 f.flatten) :: G = h ∧ RowR Ty.u8 e f d) := by
 refine fN Tryz.func88 Z Tryz.ntmps88 Tryz.results88 Z ?_
 unfold qQ at H
 refine fc<|fa<|Ea Z<|fb<|fc<|fa<|Em Z<|Em Z<|Em Z<|?_
 obtain ⟨m, k, H⟩ := bnd H
 refine fe Z (Ek Tryz.call114 Z (Ed p0 c a p1 p2 m k _ _ i hT) ?_)
 rintro _ _ _ - ⟨b, l, rfl, rfl, rfl, j⟩
 refine Ea Z<|fb<|fx<|?_
 obtain n := gq H
 subst d
 refine ⟨(.inl Z), [(sv b)], ⟨(sv b), _, Z, Z, Z⟩, ?_⟩
 exact Sd ⟨b, l, Z, Z, Z, j⟩
theorem DC (p0 : ad2) (c : SV) (a : List (List Value)) (p1 : Bool) (d : ad2) (H : qR p0 p1 = some d) (K : Kp) (G : List Ent) (i : RowR Ty.u8 K a p0) :
  Fc Tryz.prog 89 #[(sv c), (.bool p1)] K ((.row (sv c) 5 1 a.flatten) :: G) (fun v e h => ∃ (g : SV) (f : List (List Value)), v = (sv g) ∧ K = e ∧ (.row (sv g) 5 1 f.flatten) :: G = h ∧ RowR Ty.u8 e f d) := by
 refine fN Tryz.func89 Z Tryz.ntmps89 Tryz.results89 Z ?_
 unfold qR at H
 refine fc<|fa<|Ea Z<|fb<|fc<|fa<|Em Z<|Em Z<|?_
 obtain ⟨m, k, H⟩ := bnd H
 refine fe Z (Ek Tryz.call115 Z (Es p0 c a p1 m k _ _ i) ?_)
 rintro _ _ _ - ⟨b, l, rfl, rfl, rfl, j⟩
 refine Ea Z<|fb<|fx<|?_
 obtain n := gq H
 subst d
 refine ⟨(.inl Z), [(sv b)], ⟨(sv b), _, Z, Z, Z⟩, ?_⟩
 exact Sd ⟨b, l, Z, Z, Z, j⟩
theorem DD (p0 : ad2) (c : SV) (a : List (List Value)) (p1 p2 : Int) (d : ad2) (H : qS p0 p1 p2 = some d) (K : Kp) (G : List Ent) (i : RowR Ty.u8 K a p0) (hT : li K) :
  Fc Tryz.prog 90 #[(sv c), (.int .u64 p1), (Vi p2)] K ((.row (sv c) 5 1 a.flatten) :: G) (fun v e h => ∃ (g : SV) (f : List (List Value)), v = (sv g) ∧ K = e ∧ (.row (sv g) 5 1 f.flatten) :: G = h ∧ RowR Ty.u8 e f d) := by
 refine fN Tryz.func90 Z Tryz.ntmps90 Tryz.results90 Z ?_
 unfold qS at H
 refine fc<|fa<|Ea Z<|fb<|fc<|fa<|Em Z<|Em Z<|Em Z<|?_
 obtain ⟨m, k, H⟩ := bnd H
 refine fe Z (Ek Tryz.call116 Z (Eu p0 c a p1 p2 m k _ _ i hT) ?_)
 rintro _ _ _ - ⟨b, l, rfl, rfl, rfl, j⟩
 refine Ea Z<|fb<|fx<|?_
 obtain n := gq H
 subst d
 refine ⟨(.inl Z), [(sv b)], ⟨(sv b), _, Z, Z, Z⟩, ?_⟩
 exact Sd ⟨b, l, Z, Z, Z, j⟩
theorem yF (p0 : ad2) (O : SV) (p1 : ad1) (f : SV) (e : ByteArray) (H : nV p0 p1 = some e) (K : Kp) (G : List Ent) (I : Slr Ty.i64 K (sv O) p0) (aC : Slr fH K (sv f) p1) (hT : li K) :
  Fc Tryz.prog 58 #[(sv O), (sv f)] K (G) (fun v a b => v = (.string e) ∧ G = b) := by
 refine fN Tryz.func58 Z Tryz.ntmps58 Tryz.results58 Z ?_
 unfold nV at H
 refine fc<|fa<|Ea Z<|fb<|fc<|fa<|Ea Z<|fb<|?_
 refine fz (fun c a b => ∃ (B : SV) (s : ad2) (x : List (List Value)), [(1, (sv f)), (5, (sv B))] = c ∧ (.row (sv B) 5 1 x.flatten) :: G = b ∧ qT p1 s = some e ∧ RowR Ty.u8 a x s) ?_ ?_
 ·refine fc<|fa<|Em Z<|Eq Z (ge (T := Ty.i64) I Z Z)<|Em Z<|fb<|fA<|?_
  refine fY (fun ag c a b => ∃ (q : SV) (o : ad2) (p : List (List Value)) (n : Int), [(1, (sv f)), (5, (sv q)), (12, (sv O)), (13, (Vi (p0.length : Int))), (14, (Vi n))] = c ∧ K = a ∧ (.row (sv q) 5 1 p.flatten) :: G = b ∧ lp2 (vw p1 p0) ag o n = some e ∧ RowR Ty.u8 a p o) BIG ?_ ?_
  ·have ap : RowR Ty.u8 K [] [] := RowR.nil
   exact Shift.nilRow 5 1<|Sd<|⟨_, by exact R5, fB, ([] : ad2), ([] : List (List Value)), 0, Z, Z, Z, H, ap⟩
  rintro ag _ _ _ - ⟨q, o, p, n, rfl, rfl, rfl, H, U⟩
  obtain ⟨bd, bb, rfl, aA, H⟩ := jC H
  unfold vw at H
  refine fc<|fa<|Ec Z<|fb<|fc<|?_
  refine fm Z ?_ ?_
  ·intro i
   obtain ⟨i, H⟩ := It i H
   refine ft<|fc<|fA<|fc<|fa<|?_
   obtain ⟨al, ac, H⟩ := bnd H
   obtain ⟨_, rfl, ax⟩ := Slr.at I ac
   refine Eq Z (Qi (T := Ty.i64) I ac Z)<|El (Vi al) Z (Rdc.k ax Z)<|Ea Z<|fb<|fa<|Em Z<|Em Z<|?_
   obtain ⟨a0, aL, H⟩ := bnd H
   refine fe Z (Ek Tryz.call88 Z (Dz o q p al 10 a0 aL _ _ U hT) ?_)
   rintro _ _ _ - ⟨bi, bg, rfl, rfl, rfl, aG⟩
   have V : RowR Ty.u8 K [[(.int .u8 32)]] [32] := RowR.cons Z (RowR.nil)
   refine fe Z (gh (T := Ty.u8) (rows := [[(.int .u8 32)]]) (l := [32]) Z Z Z V Z Z Z Z Z Z Z Z (fun bj => ?_))
   obtain ⟨a1, aM, H⟩ := bnd H
   refine fe Z (gZ (T := Ty.u8) (bytes := 1) Z Z Z Mb1 aG (SrcT.row Mb0 V Z) aM Z Z Z Z Z Z Z Z (fun aW aR aq => ⟨_, (.there .here), ?_⟩))
   refine Ow.shift (Re0 (Sd ?_))
   exact Ea Z<|fb<|fa<|Er (wI (n + 1)) Z<|Em Z<|fb<|Sd<|⟨_, by exact R5, _, Nat.lt_succ_self _, aW, a1, aR, (wI (n + 1)), Z, Z, Z, (aA ▸ H), aq⟩
  ·intro i
   obtain ⟨i, H⟩ := If i H
   exact f5<|Sd<|⟨_, by exact R2, q, o, p, Z, Z, H, U⟩
 rintro _ a5 _ P ⟨B, s, x, rfl, rfl, H, ao⟩
 unfold qT at H
 refine fz (fun c a b => ∃ (N : SV) (L : ad2) (M : List (List Value)), [(5, (sv N))] = c ∧ (.row (sv N) 5 1 M.flatten) :: G = b ∧ vr L = some e ∧ RowR Ty.u8 a M L) ?_ ?_
 ·refine fc<|fa<|Em Z<|?_
  have Y := aC.mono P
  refine Eq Z (ge (T := fH) Y Z Z)<|Em Z<|fb<|fA<|?_
  refine fY (fun ah c a b => ∃ (C : SV) (t : ad2) (y : List (List Value)) (d : Int), [(5, (sv C)), (24, (sv f)), (25, (Vi (p1.length : Int))), (26, (Vi d))] = c ∧ (.row (sv C) 5 1 y.flatten) :: G = b ∧ lp2 (vv p1) ah t d = some e ∧ RowR Ty.u8 a y t) BIG ?_ ?_
  ·exact Sd ⟨_, by exact R4, B, s, x, 0, Z, Z, H, ao⟩
  rintro ah _ F _ Q ⟨C, t, y, d, rfl, rfl, H, W⟩
  obtain ⟨be, ae, rfl, aB, H⟩ := jC H
  unfold vv at H
  refine fc<|fa<|Ec Z<|fb<|fc<|?_
  refine fm Z ?_ ?_
  ·intro j
   obtain ⟨j, H⟩ := It j H
   refine ft ?_
   refine fz (fun c a b => ∃ (D : SV) (u : ad2) (z : List (List Value)), [(5, (sv D)), (24, (sv f)), (25, (Vi (p1.length : Int))), (26, (Vi d))] = c ∧ (.row (sv D) 5 1 z.flatten) :: G = b ∧ vt p1 d ae u = some e ∧ RowR Ty.u8 a z u) ?_ ?_
   ·refine fA<|fc<|fa<|?_
    obtain ⟨g, ad, H⟩ := bnd H
    have aa := Y.mono Q
    obtain ⟨bf, aD, ay⟩ := Slr.at aa ad
    obtain ⟨E, rfl, J⟩ := aD
    refine Eq Z (Qi (T := fH) aa ad Z)<|EL 3 (fy g E) Z (Rdc.k ay Z)<|?_
    refine fe Z (fD (cs := (fy (fL.mk 0 [] false) fB)) Z Z Z Z (fun a6 => ?_))
    refine fe Z (Sa (fy g E) Z .here Z ?_)
    refine fb<|fc<|?_
    obtain ⟨a2, aN, H⟩ := bnd H
    obtain ⟨am, aO, H⟩ := bnd H
    refine fw _ Z (Ic Mb0 In0)<|Jm 0 Z<|JF 3 2 Z<|Jl 4 (.bool g.closed) Z (Rb0 Z)<|?_
    refine Ao 1 Z ?_
    have X : RowR Ty.u8 F [[(.int .u8 47)]] [47] := RowR.cons Z (RowR.nil)
    refine gh (T := Ty.u8) (rows := [[(.int .u8 47)]]) (l := [47]) Z Z Z X Z Z Z Z Z Z Z Z (fun bk => ⟨(Ic Mb1 In0), ?_⟩)
    refine Ao 2 Z ?_
    refine gZ (T := Ty.u8) (bytes := 1) Z Z Z Mb2 W (SrcT.row Mb0 X Z) aN Z Z Z Z Z Z Z Z (fun aX aS av => ⟨_, (.there (.there .here)), ⟨(Ic Mb1 In0), ?_⟩⟩)
    refine Aw.shift (Re0 (Sd ⟨(Ic Mb0 In0), ?_⟩))
    refine Ao 5 Z ?_
    refine OpW.shift (Pu1 (Sd ?_))
    refine Ek Tryz.call89 Z (DC a2 aX aS g.closed am aO _ _ av) ?_
    rintro _ _ _ - ⟨aY, aT, rfl, rfl, rfl, aH⟩
    refine ⟨(Ic Mb1 In0), ?_⟩
    refine Ja 6 Z<|Ad<|fc<|fa<|EF 1 Z<|El (sv E) Z (Rb1 Z)<|Eq Z (ge (T := Ty.u64) J Z Z)<|Em Z<|fb<|fA<|?_
    refine fY (fun af c a b => ∃ (A : SV) (r : ad2) (w : List (List Value)) (m : Int), [(5, (sv A)), (24, (sv f)), (25, (Vi (p1.length : Int))), (26, (Vi d)), (37, (sv E)), (38, (Vi (g.buffer.length : Int))), (39, (Vi m))] = c ∧ F = a ∧ (.row (sv A) 5 1 w.flatten) :: G = b ∧ lp2 (vu p1 d g ae) af r m = some e ∧ RowR Ty.u8 a w r) BIG ?_ ?_
    ·exact Re1<|Sd<|⟨_, by exact R7, aY, am, aT, 0, Z, Z, Z, H, aH⟩
    rintro af _ _ _ - ⟨A, r, w, m, rfl, rfl, rfl, H, R⟩
    obtain ⟨bc, ba, rfl, az, H⟩ := jC H
    unfold vu at H
    refine fc<|fa<|Ec Z<|fb<|fc<|?_
    refine fm Z ?_ ?_
    ·intro h
     obtain ⟨h, H⟩ := It h H
     refine ft<|fc<|fA<|fc<|fa<|?_
     obtain ⟨ai, ab, H⟩ := bnd H
     obtain ⟨_, rfl, aw⟩ := Slr.at J ab
     refine Eq Z (Qi (T := Ty.u64) J ab Z)<|El (.int .u64 ai) Z (Rdc.k aw Z)<|Ea Z<|fb<|fa<|Em Z<|?_
     have S : RowR Ty.u8 F [[(.int .u8 32)]] [32] := RowR.cons Z (RowR.nil)
     refine fe Z (gh (T := Ty.u8) (rows := [[(.int .u8 32)]]) (l := [32]) Z Z Z S Z Z Z Z Z Z Z Z (fun bh => ?_))
     obtain ⟨aZ, aI, H⟩ := bnd H
     refine fe Z (gZ (T := Ty.u8) (bytes := 1) Z Z Z Mb1 R (SrcT.row Mb0 S Z) aI Z Z Z Z Z Z Z Z (fun aU aP an => ⟨_, (.there .here), ?_⟩))
     refine Ow.shift (Re0 (Sd ?_))
     refine Em Z ?_
     obtain ⟨aj, aJ, H⟩ := bnd H
     have aE := (hT.mono P).mono Q
     refine fe Z (Ek Tryz.call90 Z (DD aZ aU aP ai 10 aj aJ _ _ an aE) ?_)
     rintro _ _ _ - ⟨aV, aQ, rfl, rfl, rfl, aF⟩
     exact Ea Z<|fb<|fa<|Er (wI (m + 1)) Z<|Em Z<|fb<|Sd<|⟨_, by exact R7, _, Nat.lt_succ_self _, aV, aj, aQ, (wI (m + 1)), Z, Z, Z, (az ▸ H), aF⟩
    ·intro h
     obtain ⟨h, H⟩ := If h H
     exact f5<|Sd<|⟨_, by exact R4, A, r, w, Z, Z, H, R⟩
   rintro _ a3 _ a8 ⟨D, u, z, rfl, rfl, H, au⟩
   unfold vt at H
   exact fa<|Er (wI (d + 1)) Z<|Em Z<|fb<|Sd<|⟨_, by exact R4, _, Nat.lt_succ_self _, D, u, z, (wI (d + 1)), Z, Z, (aB ▸ H), au⟩
  ·intro j
   obtain ⟨j, H⟩ := If j H
   exact f5<|Sd<|⟨_, by exact R1, C, t, y, Z, Z, H, W⟩
 rintro _ a4 _ a9 ⟨N, L, M, rfl, rfl, H, ar⟩
 unfold vr at H
 refine fc<|fa<|Em Z<|?_
 obtain ⟨ak, aK, H⟩ := bnd H
 refine Eq Z (Dk Mb0 ar aK Z Z Z Z)<|Ea Z<|fb<|fx<|?_
 obtain a7 := gq H
 subst e
 refine ⟨(.inl Z), [(.string ak)], ⟨(.string ak), _, Z, Z, Z⟩, ?_⟩
 exact Re0<|Sd<|⟨Z, Z⟩
theorem Be (r : Nat) (B : af0) (j : SV) (f : Bool) (z : ad0) (h : Nat) (s : Array MapEntry) (y : Nat) (A : ad9) (i : SV) (w : List (List Value)) (p1 : ad2) (M : SV) (p2 p3 : Int) (g : fp) (q : Bool) (H : uM B f z A p1 p2 p3 = some (g, q)) (K : Kp) (G : List Ent) (t : Slr (Ty.sl fM) K (sv j) B) (ak : MapR Ty.bool Value.string K s z) (al : RowR fO K w A) (u : Slr Ty.i64 K (sv M) p1) :
  Fc Tryz.prog 59 #[(Vp r), (sv M), (Vi p2), (Vi p3)] K ((.blk r 84 [(sv j), (.bool f), .nilFunc, (.map (some h)), (sv i)]) :: (.obj h (.map s y)) :: (.row (sv i) 67 6 w.flatten) :: G) (fun v l x => ∃ (N O : SV), v = (.tuple #[(.agg (fh g N O).toArray), (.bool q)]) ∧ K = l ∧ (.blk r 84 [(sv j), (.bool f), .nilFunc, (.map (some h)), (sv i)]) :: (.obj h (.map s y)) :: (.row (sv i) 67 6 w.flatten) :: G = x ∧ Slr fW l (sv N) g.op.cases ∧ Slr Ty.i64 l (sv O) g.op.draws) := by
 refine fN Tryz.func59 Z Tryz.ntmps59 Tryz.results59 Z ?_
 unfold uM at H
 refine fc<|fa<|?_
 refine fe Z (fD (cs := (fh (fp.mk (Op.mk 0 0 0 0 0 [] []) (Result.mk 0 0 0 false 0) 0 0) fB fB)) Z Z Z Z (fun C => ?_))
 refine Ea Z<|fb<|fc<|fc<|?_
 obtain ⟨ai, J, H⟩ := bnd H
 obtain ⟨aq, L, H⟩ := bnd H
 refine fw _ Z (Ic Mb0 (Ic Mb1 (Ic Mb2 (Ic Mb3 In0))))<|Jm 0 Z<|Jm 1 Z<|?_
 obtain ⟨_, rfl, S⟩ := Slr.at u J
 refine Jq 2 Z (Qi (T := Ty.i64) u J Z)<|Jl 3 (Vi ai) Z (Rdc.k S Z)<|Jm 4 Z<|Jq 5 Z (fC Z)<|JF 6 0 Z<|Jl 7 (sv j) Z (Rb1 Z)<|Jm 8 Z<|?_
 obtain ⟨am, Y, U⟩ := Slr.at t L
 obtain ⟨af, rfl, ac⟩ := Y
 refine Jq 9 Z (Qi (T := (Ty.sl fM)) t L Z)<|Jl 10 (sv af) Z (Rdc.k U Z)<|Jq 11 Z (ge (T := fM) ac Z Z)<|Jc 12 Z<|Ad<|?_
 refine fm Z ?_ ?_
 ·intro m
  obtain ⟨m, H⟩ := It m H
  refine fc<|fa<|Eq Z (fG (cs := (fh (fp.mk (Op.mk 0 0 0 0 0 [] []) (Result.mk 0 0 0 false 0) 0 0) fB fB)) Z Z Z Z Z Z)<|?_
  refine fe Z (Sa (fh (fp.mk (Op.mk 0 0 0 0 0 [] []) (Result.mk 0 0 0 false 0) 0 0) fB fB) Z .here Z ?_)
  refine Ea Z<|fb<|fx<|?_
  obtain ⟨Q, R⟩ := ic H
  subst g q
  refine ⟨(.inl Z), [(.agg (fh (fp.mk (Op.mk 0 0 0 0 0 [] []) (Result.mk 0 0 0 false 0) 0 0) fB fB).toArray), (.bool false)], ⟨(.agg (fh (fp.mk (Op.mk 0 0 0 0 0 [] []) (Result.mk 0 0 0 false 0) 0 0) fB fB).toArray), _, Z, ⟨_, 14, (fh (fp.mk (Op.mk 0 0 0 0 0 [] []) (Result.mk 0 0 0 false 0) 0 0) fB fB), Z, Z, Z, Z, ⟨Z, Rb0 Z⟩, Z⟩, ⟨(.bool false), _, Z, Z, Z⟩⟩, ?_⟩
  exact Pu3<|Pu3<|Pu3<|Re3<|Sd<|⟨fB, fB, Z, Z, Z, (Slr.nil fW _), (Slr.nil Ty.i64 _)⟩
 ·intro m
  obtain ⟨m, H⟩ := If m H
  refine ft<|fc<|?_
  obtain ⟨ap, E, H⟩ := bnd H
  obtain ⟨ah, F, H⟩ := bnd H
  obtain ⟨a, I, H⟩ := bnd H
  refine fw _ Z (Ic Mb0 (Ic Mb1 (Ic Mb2 (Ic Mb3 In0))))<|Jm 0 Z<|Jq 1 Z (fC Z)<|JF 2 0 Z<|Jl 3 (sv j) Z (Rb1 Z)<|Jm 4 Z<|?_
  obtain ⟨an, aa, V⟩ := Slr.at t E
  obtain ⟨ag, rfl, D⟩ := aa
  refine Jq 5 Z (Qi (T := (Ty.sl fM)) t E Z)<|Jl 6 (sv ag) Z (Rdc.k V Z)<|Jm 7 Z<|Jm 8 Z<|?_
  obtain ⟨_, rfl, W⟩ := Slr.at u F
  refine Jq 9 Z (Qi (T := Ty.i64) u F Z)<|Jl 10 (Vi ah) Z (Rdc.k W Z)<|?_
  obtain ⟨ao, ab, X⟩ := Slr.at D I
  obtain ⟨b, c, rfl, ad, ae⟩ := ab
  refine Jq 11 Z (Qi (T := fM) D I Z)<|JL 12 14 (fh a b c) Z (Rdc.k X Z)<|?_
  refine Ao 13 Z ?_
  refine fD (cs := (fh (fp.mk (Op.mk 0 0 0 0 0 [] []) (Result.mk 0 0 0 false 0) 0 0) fB fB)) Z Z Z Z (fun aj => ⟨(Ic Mb1 (Ic Mb2 (Ic Mb3 (Ic Mb4 In0)))), ?_⟩)
  refine Ao 14 Z ?_
  refine Sa (fh a b c) Z .here Z ⟨(Ic Mb1 (Ic Mb2 (Ic Mb3 (Ic Mb4 In0)))), ?_⟩
  refine Ad ?_
  refine fz (fun P l x => ∃ (p : Bool), [(8, (Vp C)), (9, (.bool p))] = P ∧ K = l ∧ (.blk r 84 [(sv j), (.bool f), .nilFunc, (.map (some h)), (sv i)]) :: (.blk C 120 (fh a b c)) :: (.obj h (.map s y)) :: (.row (sv i) 67 6 w.flatten) :: G = x ∧ sL B f A a z p = some (g, q)) ?_ ?_
  ·rcases gY (dcd (a.called < p3)) with o | o <;> revert o
   ·intro e
    obtain ⟨e, H⟩ := It e H
    rcases gY f with o | o <;> revert o
    ·intro n
     have H := ift n H
     refine fw _ Z (Ic Mb0 (Ic Mb2 (Ic Mb3 (Ic Mb4 In0))))<|JL 0 14 (fh a b c) Z (Rb0 Z)<|JF 1 12 Z<|Jl 2 (Vi a.called) Z (Rb0 Z)<|Jm 3 Z<|Jc 4 Z<|Jm 5 Z<|Aw.known (d := 43) Z (hX e)<|Bm 6 Z<|Bq 7 Z (fC Z)<|BF 8 1 Z<|Bl 9 (.bool f) Z (Rb1 Z)<|Bm 10 Z<|Aw.known (d := 48) Z (n)<|Jz 11 Z<|Jz 12 Z<|Jz 13 Z<|Bt 14 Z<|Jt 15 Z<|?_
     refine Ao 16 Z ?_
     refine Sa (fh a b c) Z (.there .here) Z ⟨(Ic Mb0 (Ic Mb2 (Ic Mb3 (Ic Mb4 In0)))), ?_⟩
     exact Ja 17 Z<|Ad<|Pu4<|Pu4<|Pu3<|Pu4<|Re4<|Sd<|⟨_, by exact R2, true, Z, Z, Z, H⟩
    ·intro n
     have H := f0 (btf n) H
     refine fw _ Z (Ic Mb0 (Ic Mb2 (Ic Mb3 (Ic Mb4 In0))))<|JL 0 14 (fh a b c) Z (Rb0 Z)<|JF 1 12 Z<|Jl 2 (Vi a.called) Z (Rb0 Z)<|Jm 3 Z<|Jc 4 Z<|Jm 5 Z<|Aw.known (d := 43) Z (hX e)<|Bm 6 Z<|Bq 7 Z (fC Z)<|BF 8 1 Z<|Bl 9 (.bool f) Z (Rb1 Z)<|Bm 10 Z<|Aw.known (d := 48) Z (n)<|BF 11 13 Z<|Bl 12 (Vi a.coming) Z (Rb0 Z)<|Bc 13 Z<|Bf 14 Z<|Jt 15 Z<|?_
     refine Ao 16 Z ?_
     refine Sa (fh a b c) Z (.there .here) Z ⟨(Ic Mb0 (Ic Mb2 (Ic Mb3 (Ic Mb4 In0)))), ?_⟩
     exact Ja 17 Z<|Ad<|Pu4<|Pu4<|Pu3<|Pu4<|Re4<|Sd<|⟨_, by exact R2, (dcd (a.coming ≥ 0)), Z, Z, Z, H⟩
   ·intro e
    obtain ⟨e, H⟩ := If e H
    refine fw _ Z (Ic Mb0 (Ic Mb2 (Ic Mb3 (Ic Mb4 In0))))<|JL 0 14 (fh a b c) Z (Rb0 Z)<|JF 1 12 Z<|Jl 2 (Vi a.called) Z (Rb0 Z)<|Jm 3 Z<|Jc 4 Z<|Jm 5 Z<|Aw.known (d := 43) Z (iE e)<|Jz 6 Z<|Jz 7 Z<|Jz 8 Z<|Jz 9 Z<|Jz 10 Z<|gK 11 Z (by kernel_rfl) (by kernel_rfl) (by kernel_rfl) Z Z Z Z rfl<|gK 12 Z (by kernel_rfl) (by kernel_rfl) (by kernel_rfl) Z Z Z Z rfl<|gK 13 Z (by kernel_rfl) (by kernel_rfl) (by kernel_rfl) Z Z Z Z rfl<|Jz 14 Z<|Jf 15 Z<|?_
    refine Ao 16 Z ?_
    refine Sa (fh a b c) Z (.there .here) Z ⟨(Ic Mb0 (Ic Mb2 (Ic Mb3 (Ic Mb4 In0)))), ?_⟩
    exact Ja 17 Z<|Ad<|Pu4<|Pu4<|Pu3<|Pu4<|Re4<|Sd<|⟨_, by exact R2, false, Z, Z, Z, H⟩
  rintro _ _ _ - ⟨p, rfl, rfl, rfl, H⟩
  unfold sL at H
  refine fx ?_
  obtain ⟨Q, R⟩ := ic H
  subst g q
  refine ⟨(.inl Z), [(.agg (fh a b c).toArray), (.bool p)], ⟨(.agg (fh a b c).toArray), _, Z, ⟨_, 14, (fh a b c), Z, Z, Z, Z, ⟨Z, Rb1 Z⟩, Z⟩, ⟨(.bool p), _, Z, Z, Z⟩⟩, ?_⟩
  exact Pu3<|Pu3<|Pu2<|Re3<|Sd<|⟨b, c, Z, Z, Z, ad, ae⟩
theorem xI (p0 : Op) (f g : SV) (d : Case) (e : Bool) (H : sM p0 = some (d, e)) (K : Kp) (G : List Ent) (u : Slr fW K (sv f) p0.cases) (w : Slr Ty.i64 K (sv g) p0.draws) :
  Fc Tryz.prog 117 #[(.agg (fj p0 f g).toArray)] K (G) (fun v i h => v = (.tuple #[(.agg (fl d).toArray), (.bool e)]) ∧ K = i ∧ G = h) := by
 refine fN Tryz.func117 Z Tryz.ntmps117 Tryz.results117 Z ?_
 unfold sM at H
 refine fc<|fa<|?_
 refine fe Z (fU (cs := (fj p0 f g)) Z Z Z (fun p => ?_))
 refine fe Z (fD (cs := (fl (Case.mk false 0 0))) Z Z Z Z (fun q => ?_))
 refine Ea Z<|fb<|fc<|fc<|fa<|EF 0 Z<|El (Vi p0.kind) Z (Rb1 Z)<|fb<|fA<|?_
 refine fz (fun r i h => ∃ (o : Bool) (k l : Int) (a m : Int) (b i32 n : Int), [(1, (Vp p)), (2, (Vp q)), (6, (.bool o))] = r ∧ K = i ∧ (.blk q 108 (fl (Case.mk false k l))) :: (.blk p 51 (fj (Op.mk a m b i32 n p0.cases p0.draws) f g)) :: G = h ∧ qU p0 o k l a m b i32 n = some (d, e)) ?_ ?_
 ·refine fc<|fa<|Ec Z<|Ea Z<|fb<|?_
  refine fm Z ?_ ?_
  ·intro c
   obtain ⟨c, H⟩ := It c H
   exact ft<|Pu1<|Pu1<|Sd<|⟨_, by exact R3, (dcd (p0.kind = 1)), 0, 0, p0.kind, p0.mode, p0.channel, p0.value, p0.deadline, Z, Z, Z, H⟩
  ·intro c
   obtain ⟨c, H⟩ := If c H
   exact fa<|Ec Z<|Ea Z<|fb<|Pu1<|Pu1<|Sd<|⟨_, by exact R3, (dcd (p0.kind = 2)), 0, 0, p0.kind, p0.mode, p0.channel, p0.value, p0.deadline, Z, Z, Z, H⟩
 rintro _ _ _ - ⟨o, k, l, a, m, b, i32, n, rfl, rfl, rfl, H⟩
 unfold qU at H
 refine fm Z ?_ ?_
 ·intro j
  have H := ift j H
  refine fc<|fa<|EF 0 Z<|El (Vi a) Z (Rb1 Z)<|Ec Z<|EF 2 Z<|El (Vi b) Z (Rb1 Z)<|EF 3 Z<|El (.int .u64 i32) Z (Rb1 Z)<|Eq Z (fG (cs := (fl (Case.mk (dcd (a = 1)) b i32))) Z Z Z Z Z Z)<|?_
  refine fe Z (Sa (fl (Case.mk (dcd (a = 1)) b i32)) Z .here Z ?_)
  refine Ea Z<|fb<|fx<|?_
  obtain ⟨s, t⟩ := ic H
  subst d e
  refine ⟨(.inl Z), [(.agg (fl (Case.mk (dcd (a = 1)) b i32)).toArray), (.bool true)], ⟨(.agg (fl (Case.mk (dcd (a = 1)) b i32)).toArray), _, Z, ⟨_, 3, (fl (Case.mk (dcd (a = 1)) b i32)), Z, Z, Z, Z, ⟨Z, Rb0 Z⟩, Z⟩, ⟨(.bool true), _, Z, Z, Z⟩⟩, ?_⟩
  exact Re0<|Re0<|Sd<|⟨Z, Z, Z⟩
 ·intro j
  have H := f0 (btf j) H
  refine ft<|fc<|fa<|Eq Z (fG (cs := (fl (Case.mk false 0 0))) Z Z Z Z Z Z)<|?_
  refine fe Z (Sa (fl (Case.mk false 0 0)) Z .here Z ?_)
  refine Ea Z<|fb<|fx<|?_
  obtain ⟨s, t⟩ := ic H
  subst d e
  refine ⟨(.inl Z), [(.agg (fl (Case.mk false 0 0)).toArray), (.bool false)], ⟨(.agg (fl (Case.mk false 0 0)).toArray), _, Z, ⟨_, 3, (fl (Case.mk false 0 0)), Z, Z, Z, Z, ⟨Z, Rb0 Z⟩, Z⟩, ⟨(.bool false), _, Z, Z, Z⟩⟩, ?_⟩
  exact Re0<|Re0<|Sd<|⟨Z, Z, Z⟩
theorem xJ (p0 : Op) (a d : SV) (p1 : Int) (e : Case) (f : Bool) (H : sO p0 p1 = some (e, f)) (K : Kp) (G : List Ent) (i : Slr fW K (sv a) p0.cases) (E : Slr Ty.i64 K (sv d) p0.draws) :
  Fc Tryz.prog 91 #[(.agg (fj p0 a d).toArray), (Vi p1)] K (G) (fun v l j => v = (.tuple #[(.agg (fl e).toArray), (.bool f)]) ∧ K = l ∧ G = j) := by
 refine fN Tryz.func91 Z Tryz.ntmps91 Tryz.results91 Z ?_
 unfold sO at H
 refine fc<|fa<|?_
 refine fe Z (fU (cs := (fj p0 a d)) Z Z Z (fun b25 => ?_))
 refine fe Z (fD (cs := (fl (Case.mk false 0 0))) Z Z Z Z (fun y => ?_))
 refine Ea Z<|fb<|fc<|fc<|fa<|EL 7 (fj p0 a d) Z (Rb1 Z)<|?_
 obtain ⟨c, I, F, H⟩ := iw H
 refine fe Z (Ek Tryz.call117 Z (xI p0 a d c I F _ _ i E) ?_)
 rintro _ _ _ - ⟨rfl, rfl, rfl⟩
 refine Em Z<|Ex Z<|Ex Z<|?_
 refine fe Z (fD (cs := (fl (Case.mk false 0 0))) Z Z Z Z (fun J => ?_))
 refine fe Z (Sa (fl c) Z .here Z ?_)
 refine Ea Z<|fb<|fc<|fa<|Em Z<|fb<|?_
 refine fm Z ?_ ?_
 ·intro m
  have H := ift m H
  refine fc<|fa<|EL 3 (fl c) Z (Rb0 Z)<|Em Z<|Ec Z<|?_
  refine fe Z (Sa (fl c) Z (.there .here) Z ?_)
  refine Ea Z<|fb<|fx<|?_
  obtain ⟨z, A⟩ := ic H
  subst e f
  refine ⟨(.inl Z), [(.agg (fl c).toArray), (.bool (dcd (p1 = (-1))))], ⟨(.agg (fl c).toArray), _, Z, ⟨_, 3, (fl c), Z, Z, Z, Z, ⟨Z, Rb1 Z⟩, Z⟩, ⟨(.bool (dcd (p1 = (-1)))), _, Z, Z, Z⟩⟩, ?_⟩
  exact Re0<|Re0<|Re0<|Sd<|⟨Z, Z, Z⟩
 ·intro m
  have H := f0 (btf m) H
  refine ft<|fc<|?_
  refine fz (fun C l j => ∃ (o : Int) (x : Bool) (p q : Int) (r s : Int) (t u w : Int), [(1, (Vi o)), (2, (Vp b25)), (4, (Vp y)), (30, (.bool x))] = C ∧ K = l ∧ (.blk y 108 (fl (Case.mk false p q))) :: (.blk b25 51 (fj (Op.mk r s t u w p0.cases p0.draws) a d)) :: G = j ∧ nW p0 o x p q r s t u w = some (e, f)) ?_ ?_
  ·refine fa<|EF 0 Z<|El (Vi p0.kind) Z (Rb2 Z)<|Ec Z<|Em Z<|?_
   refine Ee Z ?_ ?_
   ·intro b
    have b := kT (iv (b))
    have H := f0 b H
    exact Ez Z<|Ez Z<|Et Z<|Em Z<|Ez Z<|Ez Z<|Ez Z<|Ez Z<|Ez Z<|Et Z<|fb<|Pu2<|Pu2<|Re2<|Sd<|⟨_, by exact R4, p1, true, 0, 0, p0.kind, p0.mode, p0.channel, p0.value, p0.deadline, Z, Z, Z, H⟩
   ·intro b
    have b := kU (ir (b))
    have H := ift b H
    refine Vm Z<|Vc Z<|Ef Z<|Em Z<|?_
    refine Ee Z ?_ ?_
    ·intro g
     obtain ⟨g, H⟩ := It g H
     exact Ez Z<|Ez Z<|Ez Z<|Ez Z<|Ez Z<|Et Z<|fb<|Pu2<|Pu2<|Re2<|Sd<|⟨_, by exact R4, p1, true, 0, 0, p0.kind, p0.mode, p0.channel, p0.value, p0.deadline, Z, Z, Z, H⟩
    ·intro g
     obtain ⟨g, H⟩ := If g H
     exact Vm Z<|VF 5 Z<|Vl (sv a) Z (Rb2 Z)<|Vq Z (ge (T := fW) i rfl rfl)<|Vc Z<|Ef Z<|fb<|Pu2<|Pu2<|Re2<|Sd<|⟨_, by exact R4, p1, (dcd (p1 ≥ (p0.cases.length : Int))), 0, 0, p0.kind, p0.mode, p0.channel, p0.value, p0.deadline, rfl, rfl, rfl, H⟩
  rintro _ _ _ - ⟨o, x, p, q, r, s, t, u, w, rfl, rfl, rfl, H⟩
  unfold nW at H
  refine fm Z ?_ ?_
  ·intro n
   have H := ift n H
   refine fc<|fa<|Eq Z (fG (cs := (fl (Case.mk false 0 0))) Z Z Z Z Z Z)<|?_
   refine fe Z (Sa (fl (Case.mk false 0 0)) Z .here Z ?_)
   refine Ea Z<|fb<|fx<|?_
   obtain ⟨z, A⟩ := ic H
   subst e f
   refine ⟨(.inl Z), [(.agg (fl (Case.mk false 0 0)).toArray), (.bool false)], ⟨(.agg (fl (Case.mk false 0 0)).toArray), _, Z, ⟨_, 3, (fl (Case.mk false 0 0)), Z, Z, Z, Z, ⟨Z, Rb0 Z⟩, Z⟩, ⟨(.bool false), _, Z, Z, Z⟩⟩, ?_⟩
   exact Re0<|Re0<|Sd<|⟨Z, Z, Z⟩
  ·intro n
   have H := f0 (btf n) H
   refine ft<|fc<|fa<|EF 5 Z<|El (sv a) Z (Rb1 Z)<|Em Z<|?_
   obtain ⟨h, B, H⟩ := bnd H
   obtain ⟨_, rfl, D⟩ := Slr.at i B
   refine Eq Z (Qi (T := fW) i B Z)<|EL 3 (fl h) Z (Rdc.k D Z)<|?_
   refine fe Z (Sa (fl h) Z .here Z ?_)
   refine Ea Z<|fb<|fx<|?_
   obtain ⟨z, A⟩ := ic H
   subst e f
   refine ⟨(.inl Z), [(.agg (fl h).toArray), (.bool true)], ⟨(.agg (fl h).toArray), _, Z, ⟨_, 3, (fl h), Z, Z, Z, Z, ⟨Z, Rb0 Z⟩, Z⟩, ⟨(.bool true), _, Z, Z, Z⟩⟩, ?_⟩
   exact Re0<|Re0<|Sd<|⟨Z, Z, Z⟩
theorem l9 (p0 : ad1) (n : SV) (p1 : Int) (b : fL) (e : Bool) (H : mo p0 p1 = some (b, e)) (K : Kp) (G : List Ent) (i : Slr fH K (sv n) p0) :
  Fc Tryz.prog 92 #[(sv n), (Vi p1)] K (G) (fun v f g => ∃ (q : SV), v = (.tuple #[(.agg (fy b q).toArray), (.bool e)]) ∧ K = f ∧ G = g ∧ Slr Ty.u64 f (sv q) b.buffer) := by
 refine fN Tryz.func92 Z Tryz.ntmps92 Tryz.results92 Z ?_
 unfold mo at H
 refine fc<|fa<|?_
 refine fe Z (fD (cs := (fy (fL.mk 0 [] false) fB)) Z Z Z Z (fun o => ?_))
 refine Ea Z<|fb<|fc<|?_
 refine fz (fun r f g => ∃ (j : Int) (m : Bool) (l : Int), [(0, (sv n)), (1, (Vi j)), (4, (Vp o)), (13, (.bool m))] = r ∧ K = f ∧ (.blk o 104 (fy (fL.mk l [] false) fB)) :: G = g ∧ qV p0 j m l = some (b, e)) ?_ ?_
 ·refine fa<|Em Z<|Ec Z<|Em Z<|?_
  refine Ee Z ?_ ?_
  ·intro c
   obtain ⟨c, H⟩ := It c H
   exact Ez Z<|Ez Z<|Ez Z<|Ez Z<|Et Z<|fb<|Sd<|⟨_, by exact R4, p1, true, 0, Z, Z, Z, H⟩
  ·intro c
   obtain ⟨c, H⟩ := If c H
   exact Vm Z<|Vm Z<|Vq Z (ge (T := fH) i Z Z)<|Vc Z<|Ef Z<|fb<|Sd<|⟨_, by exact R4, p1, (dcd (p1 ≥ (p0.length : Int))), 0, Z, Z, Z, H⟩
 rintro _ _ _ - ⟨j, m, l, rfl, rfl, rfl, H⟩
 unfold qV at H
 refine fm Z ?_ ?_
 ·intro h
  have H := ift h H
  refine fc<|fa<|Eq Z (fG (cs := (fy (fL.mk 0 [] false) fB)) Z Z Z Z Z Z)<|?_
  refine fe Z (Sa (fy (fL.mk 0 [] false) fB) Z .here Z ?_)
  refine Ea Z<|fb<|fx<|?_
  obtain ⟨s, t⟩ := ic H
  subst b e
  refine ⟨(.inl Z), [(.agg (fy (fL.mk 0 [] false) fB).toArray), (.bool false)], ⟨(.agg (fy (fL.mk 0 [] false) fB).toArray), _, Z, ⟨_, 3, (fy (fL.mk 0 [] false) fB), Z, Z, Z, Z, ⟨Z, Rb0 Z⟩, Z⟩, ⟨(.bool false), _, Z, Z, Z⟩⟩, ?_⟩
  exact Re0<|Sd<|⟨fB, Z, Z, Z, (Slr.nil Ty.u64 _)⟩
 ·intro h
  have H := f0 (btf h) H
  refine ft<|fc<|fa<|Em Z<|Em Z<|?_
  obtain ⟨d, p, H⟩ := bnd H
  obtain ⟨r28, w, u⟩ := Slr.at i p
  obtain ⟨a, rfl, x⟩ := w
  refine Eq Z (Qi (T := fH) i p Z)<|EL 3 (fy d a) Z (Rdc.k u Z)<|?_
  refine fe Z (Sa (fy d a) Z .here Z ?_)
  refine Ea Z<|fb<|fx<|?_
  obtain ⟨s, t⟩ := ic H
  subst b e
  refine ⟨(.inl Z), [(.agg (fy d a).toArray), (.bool true)], ⟨(.agg (fy d a).toArray), _, Z, ⟨_, 3, (fy d a), Z, Z, Z, Z, ⟨Z, Rb0 Z⟩, Z⟩, ⟨(.bool true), _, Z, Z, Z⟩⟩, ?_⟩
  exact Re0<|Sd<|⟨a, Z, Z, Z, x⟩
theorem Eg (p0 : fL) (b : SV) (c : Bool) (H : vx p0 = some c) (K : Kp) (G : List Ent) (g : Slr Ty.u64 K (sv b) p0.buffer) :
  Fc Tryz.prog 93 #[(.agg (fy p0 b).toArray)] K (G) (fun v e d => v = (.bool c) ∧ K = e ∧ G = d) := by
 refine fN Tryz.func93 Z Tryz.ntmps93 Tryz.results93 Z ?_
 unfold vx at H
 refine fc<|fa<|?_
 refine fe Z (fU (cs := (fy p0 b)) Z Z Z (fun b3 => ?_))
 refine Ea Z<|fb<|fc<|fa<|EF 2 Z<|El (.bool p0.closed) Z (Rb0 Z)<|Eq Z (gf Z)<|Em Z<|?_
 refine Ee Z ?_ ?_
 ·intro a
  have a := iv a
  have H := f0 (btf a) H
  refine VF 1 Z<|Vl (sv b) Z (Rb0 Z)<|Vq Z (ge (T := Ty.u64) g Z Z)<|VF 0 Z<|Vl (Vi p0.capacity) Z (Rb0 Z)<|Vc Z<|Et Z<|Ea Z<|fb<|fx<|?_
  obtain f := gq H
  subst c
  refine ⟨(.inl Z), [(.bool (dcd ((p0.buffer.length : Int) < p0.capacity)))], ⟨(.bool (dcd ((p0.buffer.length : Int) < p0.capacity))), _, Z, Z, Z⟩, ?_⟩
  exact Re0<|Sd<|⟨Z, Z, Z⟩
 ·intro a
  have a := ir a
  have H := ift a H
  refine Ez Z<|Ez Z<|Ez Z<|Ez Z<|Ez Z<|Ez Z<|Ef Z<|Ea Z<|fb<|fx<|?_
  obtain f := gq H
  subst c
  refine ⟨(.inl Z), [(.bool false)], ⟨(.bool false), _, Z, Z, Z⟩, ?_⟩
  exact Re0<|Sd<|⟨Z, Z, Z⟩
theorem tL (p0 : ad2) (g : SV) (a : ad2) (H : qW p0 = some a) (K : Kp) (G : List Ent) (e : Slr Ty.u64 K (sv g) p0) :
  Fc Tryz.prog 94 #[(sv g)] K (G) (fun v c i => ∃ (h : SV) (f : List (List Value)), v = (sv h) ∧ K = c ∧ (.row (sv h) 36 1 f.flatten) :: G = i ∧ RowR Ty.u64 c f a) := by
 refine fN Tryz.func94 Z Tryz.ntmps94 Tryz.results94 Z ?_
 unfold qW at H
 refine fc<|fa<|Ea Z<|fb<|fc<|fc<|fa<|Em Z<|Eq Z (pj Z Z Z)<|fb<|?_
 refine fm Z ?_ ?_
 ·intro d
  have n := Slr.nil_of e d
  have H : some [] = some a := by rw [n] at H; simpa [app] using H
  refine fc<|fa<|Ea Z<|fb<|fx<|?_
  obtain j := gq H
  subst a
  refine ⟨(.inl Z), [(sv fB)], ⟨(sv fB), _, Z, Z, Z⟩, ?_⟩
  have k : RowR Ty.u64 K [] [] := RowR.nil
  exact Shift.nilRow 36 1<|Sd<|⟨fB, ([] : List (List Value)), Z, Z, Z, k⟩
 ·intro d
  refine ft<|fc<|fa<|?_
  have l : RowR Ty.u64 K [] [] := RowR.nil
  refine fe Z (Aj (T := Ty.u64) Z Z Z Z Z (fun q => ?_))
  refine Em Z ?_
  obtain ⟨r, o, H⟩ := bnd H
  refine fe Z (gZ (T := Ty.u64) (bytes := 8) Z Z Z Mb0 l (SrcT.sl e) o Z Z Z Z Z Z Z Z (fun b p m => ⟨_, .here, ?_⟩))
  refine Ea Z<|fb<|fx<|?_
  obtain j := gq H
  subst a
  refine ⟨(.inl Z), [(sv b)], ⟨(sv b), _, Z, Z, Z⟩, ?_⟩
  exact Sd ⟨b, p, Z, Z, Z, m⟩
theorem DF (p0 : ad1) (g : SV) (a : ad1) (H : qX p0 = some a) (K : Kp) (G : List Ent) (e : Slr fH K (sv g) p0) :
  Fc Tryz.prog 118 #[(sv g)] K (G) (fun v c i => ∃ (h : SV) (f : List (List Value)), v = (sv h) ∧ K = c ∧ (.row (sv h) 104 3 f.flatten) :: G = i ∧ RowR fH c f a) := by
 refine fN Tryz.func118 Z Tryz.ntmps118 Tryz.results118 Z ?_
 unfold qX at H
 refine fc<|fa<|Ea Z<|fb<|fc<|fc<|fa<|Em Z<|Eq Z (pj Z Z Z)<|fb<|?_
 refine fm Z ?_ ?_
 ·intro d
  have n := Slr.nil_of e d
  have H : some [] = some a := by rw [n] at H; simpa [app] using H
  refine fc<|fa<|Ea Z<|fb<|fx<|?_
  obtain j := gq H
  subst a
  refine ⟨(.inl Z), [(sv fB)], ⟨(sv fB), _, Z, Z, Z⟩, ?_⟩
  have k : RowR fH K [] [] := RowR.nil
  exact Shift.nilRow 104 3<|Sd<|⟨fB, ([] : List (List Value)), Z, Z, Z, k⟩
 ·intro d
  refine ft<|fc<|fa<|?_
  have l : RowR fH K [] [] := RowR.nil
  refine fe Z (Aj (T := fH) Z Z Z Z Z (fun q => ?_))
  refine Em Z ?_
  obtain ⟨r, o, H⟩ := bnd H
  refine fe Z (gZ (T := fH) (bytes := 40) Z Z Z Mb0 l (SrcT.sl e) o Z Z Z Z Z Z Z Z (fun b p m => ⟨_, .here, ?_⟩))
  refine Ea Z<|fb<|fx<|?_
  obtain j := gq H
  subst a
  refine ⟨(.inl Z), [(sv b)], ⟨(sv b), _, Z, Z, Z⟩, ?_⟩
  exact Sd ⟨b, p, Z, Z, Z, m⟩
theorem xA (p0 : ad1) (e : SV) (p1 : Int) (p2 : fL) (a : SV) (f : ad1) (H : mp p0 p1 p2 = some f) (K : Kp) (G : List Ent) (m : Slr fH K (sv e) p0) (n : Slr Ty.u64 K (sv a) p2.buffer) :
  Fc Tryz.prog 95 #[(sv e), (Vi p1), (.agg (fy p2 a).toArray)] K (G) (fun v g k => ∃ (j : SV) (i : List (List Value)), v = (sv j) ∧ K = g ∧ (.row (sv j) 104 3 i.flatten) :: G = k ∧ RowR fH g i f) := by
 refine fN Tryz.func95 Z Tryz.ntmps95 Tryz.results95 Z ?_
 unfold mp at H
 refine fc<|fa<|?_
 refine fe Z (fU (cs := (fy p2 a)) Z Z Z (fun r => ?_))
 refine Ea Z<|fb<|fc<|fa<|Em Z<|?_
 obtain ⟨x17, p, H⟩ := bnd H
 refine fe Z (Ek Tryz.call118 Z (DF p0 e x17 p _ _ m) ?_)
 rintro _ _ _ - ⟨d, q, rfl, rfl, rfl, b⟩
 refine Ea Z<|fb<|fc<|fa<|Em Z<|Em Z<|EL 3 (fy p2 a) Z (Rb1 Z)<|?_
 obtain ⟨y, h, H⟩ := bnd H
 obtain ⟨w, c, o⟩ := RowR.at b h
 obtain ⟨x, rfl, u⟩ := o
 refine Eq Z (gP (T := fH) Mb0 b c (fR h).1 Z Z Z Z Z) ?_
 refine fe Z (gX (T := fH) (vs := (fy p2 a)) (r' := (fy p2 a)) (l' := (gb x17 p1 p2)) Z Z Z Z Z .here b c Z Z Z (RowR.set p1 b ⟨a, Z, n⟩) (fun l => ?_))
 have t := iV c (v := (fy p2 a))
 refine fb<|fc<|fa<|Em Z<|Ea Z<|fb<|fx<|?_
 obtain s := gq H
 subst f
 refine ⟨(.inl Z), [(sv d)], ⟨(sv d), _, Z, Z, Z⟩, ?_⟩
 exact Re1<|Sd<|⟨d, (q.set p1.toNat (fy p2 a)), Z, Z, Z, l⟩
theorem qy (p0 : Op) (a b : SV) (c : af5) (H : pD p0 = some c) (K : Kp) (G : List Ent) (g : Slr fW K (sv a) p0.cases) (m : Slr Ty.i64 K (sv b) p0.draws) :
  Fc Tryz.prog 97 #[(.agg (fj p0 a b).toArray)] K (G) (fun v j i => ∃ (h : SV), v = (sv h) ∧ G = i ∧ Slr fW j (sv h) c) := by
 refine fN Tryz.func97 Z Tryz.ntmps97 Tryz.results97 Z ?_
 unfold pD at H
 refine fc<|fa<|?_
 refine fe Z (fU (cs := (fj p0 a b)) Z Z Z (fun r => ?_))
 refine Ea Z<|fb<|fc<|fc<|fa<|EL 7 (fj p0 a b) Z (Rb0 Z)<|?_
 obtain ⟨x17, x18, o, H⟩ := iw H
 refine fe Z (Ek Tryz.call117 Z (xI p0 a b x17 x18 o _ _ g m) ?_)
 rintro _ _ _ - ⟨rfl, rfl, rfl⟩
 refine Em Z<|Ex Z<|Ex Z<|?_
 refine fe Z (fD (cs := (fl (Case.mk false 0 0))) Z Z Z Z (fun q => ?_))
 refine fe Z (Sa (fl x17) Z .here Z ?_)
 refine Ea Z<|fb<|fc<|fa<|Em Z<|fb<|?_
 refine fm Z ?_ ?_
 ·intro d
  have H := ift d H
  refine fc<|fa<|EL 3 (fl x17) Z (Rb0 Z)<|?_
  have f : RowR fW K [(fl x17)] [x17] := RowR.cons Z (RowR.nil)
  refine fe Z (gh (T := fW) (rows := [(fl x17)]) (l := [x17]) Z Z Z f Z Z Z Z Z Z Z Z (fun e => ?_))
  refine Ea Z<|fb<|fx<|?_
  obtain k := gq H
  subst c
  refine ⟨(.inl Z), [(sv e)], ⟨(sv e), _, Z, Z, Z⟩, ?_⟩
  refine Shift.settle (T := fW) .here f Z ?_
  intro p s n
  exact Re0<|Re0<|Re0<|Sd<|⟨e, Z, Z, n⟩
 ·intro d
  have H := f0 (btf d) H
  refine ft<|fc<|fa<|EF 5 Z<|El (sv a) Z (Rb1 Z)<|Ea Z<|fb<|fx<|?_
  obtain k := gq H
  subst c
  refine ⟨(.inl Z), [(sv a)], ⟨(sv a), _, Z, Z, Z⟩, ?_⟩
  exact Re0<|Re0<|Sd<|⟨a, Z, Z, g⟩
theorem DG (p0 : ad1) (i : SV) (p1 : Case) (c : Bool) (H : qY p0 p1 = some c) (K : Kp) (G : List Ent) (m : Slr fH K (sv i) p0) :
  Fc Tryz.prog 99 #[(sv i), (.agg (fl p1).toArray)] K (G) (fun v l k => v = (.bool c) ∧ K = l ∧ G = k) := by
 refine fN Tryz.func99 Z Tryz.ntmps99 Tryz.results99 Z ?_
 unfold qY at H
 refine fc<|fa<|?_
 refine fe Z (fU (cs := (fl p1)) Z Z Z (fun o => ?_))
 refine Ea Z<|fb<|fc<|fa<|Em Z<|EF 1 Z<|El (Vi p1.channel) Z (Rb0 Z)<|?_
 obtain ⟨a, x14, n, H⟩ := iw H
 refine fe Z (Ek Tryz.call92 Z (l9 p0 i p1.channel a x14 n _ _ m) ?_)
 rintro _ _ _ - ⟨h, rfl, rfl, rfl, j⟩
 refine Em Z<|Ex Z<|Ex Z<|?_
 refine fe Z (fD (cs := (fy (fL.mk 0 [] false) fB)) Z Z Z Z (fun p => ?_))
 refine fe Z (Sa (fy a h) Z .here Z ?_)
 refine Ea Z<|fb<|fc<|fA<|fc<|fa<|Em Z<|Eq Z (gf Z)<|Ea Z<|fb<|?_
 refine fm Z ?_ ?_
 ·intro b
  have b := iv b
  have H := f0 (btf b) H
  refine fc<|fa<|Ea Z<|fb<|fx<|?_
  obtain d := gq H
  subst c
  refine ⟨(.inl Z), [(.bool false)], ⟨(.bool false), _, Z, Z, Z⟩, ?_⟩
  exact Re0<|Re0<|Sd<|⟨Z, Z, Z⟩
 ·intro b
  have b := ir b
  have H := ift b H
  refine fc<|fa<|EF 0 Z<|El (.bool p1.send) Z (Rb1 Z)<|Ea Z<|fb<|?_
  refine fm Z ?_ ?_
  ·intro e
   have H := ift e H
   refine fc<|fa<|EF 2 Z<|El (.bool a.closed) Z (Rb0 Z)<|Em Z<|?_
   refine Ee Z ?_ ?_
   ·intro f
    have H := ift f H
    refine Ez Z<|Ez Z<|Ez Z<|Ez Z<|Ez Z<|Ez Z<|Et Z<|Ea Z<|fb<|fx<|?_
    obtain d := gq H
    subst c
    refine ⟨(.inl Z), [(.bool true)], ⟨(.bool true), _, Z, Z, Z⟩, ?_⟩
    exact Re0<|Re0<|Sd<|⟨Z, Z, Z⟩
   ·intro f
    have H := f0 (btf f) H
    refine VF 1 Z<|Vl (sv h) Z (Rb0 Z)<|Vq Z (ge (T := Ty.u64) j Z Z)<|VF 0 Z<|Vl (Vi a.capacity) Z (Rb0 Z)<|Vc Z<|Ef Z<|Ea Z<|fb<|fx<|?_
    obtain d := gq H
    subst c
    refine ⟨(.inl Z), [(.bool (dcd ((a.buffer.length : Int) < a.capacity)))], ⟨(.bool (dcd ((a.buffer.length : Int) < a.capacity))), _, Z, Z, Z⟩, ?_⟩
    exact Re0<|Re0<|Sd<|⟨Z, Z, Z⟩
  ·intro e
   have H := f0 (btf e) H
   refine ft<|fc<|fa<|EF 2 Z<|El (.bool a.closed) Z (Rb0 Z)<|Em Z<|?_
   refine Ee Z ?_ ?_
   ·intro g
    have H := ift g H
    refine Ez Z<|Ez Z<|Ez Z<|Ez Z<|Et Z<|Ea Z<|fb<|fx<|?_
    obtain d := gq H
    subst c
    refine ⟨(.inl Z), [(.bool true)], ⟨(.bool true), _, Z, Z, Z⟩, ?_⟩
    exact Re0<|Re0<|Sd<|⟨Z, Z, Z⟩
   ·intro g
    have H := f0 (btf g) H
    refine VF 1 Z<|Vl (sv h) Z (Rb0 Z)<|Vq Z (ge (T := Ty.u64) j Z Z)<|Vc Z<|Ef Z<|Ea Z<|fb<|fx<|?_
    obtain d := gq H
    subst c
    refine ⟨(.inl Z), [(.bool (dcd ((a.buffer.length : Int) > 0)))], ⟨(.bool (dcd ((a.buffer.length : Int) > 0))), _, Z, Z, Z⟩, ?_⟩
    exact Re0<|Re0<|Sd<|⟨Z, Z, Z⟩
theorem Eh (p0 : Case) (b : Nat) (p1 : ad1) (a : SV) (d : Bool) (H : vy p0 p1 = some d) (K : Kp) (G : List Ent) (g : Slr fH K (sv a) p1) :
  Fc Tryz.prog 98 #[(.agg (fl p0).toArray), (Vp b)] K ((.blk b 57 [(sv a)]) :: G) (fun v f e => v = (.bool d) ∧ K = f ∧ (.blk b 57 [(sv a)]) :: G = e) := by
 refine fN Tryz.func98 Z Tryz.ntmps98 Tryz.results98 Z ?_
 unfold vy at H
 refine fc<|fa<|?_
 refine fe Z (fU (cs := (fl p0)) Z Z Z (fun b4 => ?_))
 refine Ea Z<|fb<|fc<|fa<|El (sv a) Z (Rb1 Z)<|EL 3 (fl p0) Z (Rb0 Z)<|?_
 obtain ⟨c, h, H⟩ := bnd H
 refine fe Z (Ek Tryz.call99 Z (DG p1 a p0 c h _ _ g) ?_)
 rintro _ _ _ - ⟨rfl, rfl, rfl⟩
 refine Ea Z<|fb<|fx<|?_
 obtain i := gq H
 subst d
 refine ⟨(.inl Z), [(.bool c)], ⟨(.bool c), _, Z, Z, Z⟩, ?_⟩
 exact Pu1<|Re1<|Sd<|⟨Z, Z, Z⟩
theorem DI (p0 : af5) (m : SV) (a : Nat) (f : ad1) (c : SV) (d : Int) (H : qZ p0 f = some d) (K : Kp) (G : List Ent) (l : Slr fW K (sv m) p0) (q : Slr fH K (sv c) f) :
  Fc Tryz.prog 119 #[(sv m), (.func (.func 98) #[] #[(Vp a)])] K ((.blk a 57 [(sv c)]) :: G) (fun v h e => v = (Vi d) ∧ (.blk a 57 [(sv c)]) :: G = e) := by
 refine fN Tryz.func119 Z Tryz.ntmps119 Tryz.results119 Z ?_
 unfold qZ at H
 refine fc<|fa<|Ea Z<|fb<|?_
 refine fz (fun i h e => [] = i ∧ (.blk a 57 [(sv c)]) :: G = e ∧ vz f = some d) ?_ ?_
 ·refine fc<|fa<|Em Z<|Eq Z (ge (T := fW) l Z Z)<|Em Z<|fb<|fA<|?_
  refine fY (fun n87 i h e => ∃ (b : Int), [(0, (sv m)), (1, (.func (.func 98) #[] #[(Vp a)])), (7, (Vi (p0.length : Int))), (8, (Vi b))] = i ∧ K = h ∧ (.blk a 57 [(sv c)]) :: G = e ∧ lp1 (vA p0 f) n87 b = some d) BIG ?_ ?_
  ·exact Sd ⟨_, by exact R4, 0, Z, Z, Z, H⟩
  rintro n87 _ _ _ - ⟨b, rfl, rfl, rfl, H⟩
  obtain ⟨z, y, rfl, s, H⟩ := lr H
  unfold vA at H
  refine fc<|fa<|Ec Z<|fb<|fc<|?_
  refine fm Z ?_ ?_
  ·intro g
   obtain ⟨g, H⟩ := It g H
   refine ft<|fc<|fA<|fc<|fa<|Em Z<|Ea Z<|fb<|fc<|fa<|Em Z<|Em Z<|Em Z<|?_
   obtain ⟨o, n, H⟩ := bnd H
   obtain ⟨_, rfl, r⟩ := Slr.at l n
   refine Eq Z (Qi (T := fW) l n Z)<|EL 3 (fl o) Z (Rdc.k r Z)<|?_
   obtain ⟨u, t, H⟩ := bnd H
   refine fe Z (Ek Tryz.call98 Z (Eh o a f c u t _ _ q) ?_)
   rintro _ _ _ - ⟨rfl, rfl, rfl⟩
   refine fb ?_
   refine fm Z ?_ ?_
   ·intro j
    have H := ift j H
    refine fc<|fa<|Em Z<|Ea Z<|fb<|fx<|?_
    obtain p := gq H
    subst d
    refine ⟨(.inl Z), [(Vi b)], ⟨(Vi b), _, Z, Z, Z⟩, ?_⟩
    exact Sd ⟨Z, Z⟩
   ·intro j
    have H := f0 (btf j) H
    exact ft<|fa<|Er (wI (b + 1)) Z<|Em Z<|fb<|Sd<|⟨_, by exact R4, _, Nat.lt_succ_self _, (wI (b + 1)), Z, Z, Z, (s ▸ H)⟩
  ·intro g
   obtain ⟨g, H⟩ := If g H
   exact f5<|Sd<|⟨[], trivial, Z, Z, H⟩
 rintro _ w _ x ⟨rfl, rfl, H⟩
 unfold vz at H
 refine fc<|fa<|Ea Z<|fb<|fx<|?_
 obtain p := gq H
 subst d
 refine ⟨(.inl Z), [(Vi (-1))], ⟨(Vi (-1)), _, Z, Z, Z⟩, ?_⟩
 exact Sd ⟨Z, Z⟩
theorem Du (p0 : af5) (d : SV) (a : Nat) (c : ad1) (b : SV) (f : Bool) (H : nX p0 c = some f) (K : Kp) (G : List Ent) (i : Slr fW K (sv d) p0) (h : Slr fH K (sv b) c) :
  Fc Tryz.prog 96 #[(sv d), (.func (.func 98) #[] #[(Vp a)])] K ((.blk a 57 [(sv b)]) :: G) (fun v k g => v = (.bool f) ∧ (.blk a 57 [(sv b)]) :: G = g) := by
 refine fN Tryz.func96 Z Tryz.ntmps96 Tryz.results96 Z ?_
 unfold nX at H
 refine fc<|fa<|Ea Z<|fb<|fc<|fa<|Em Z<|Em Z<|?_
 obtain ⟨e, j, H⟩ := bnd H
 refine fe Z (Ek Tryz.call119 Z (DI p0 d a c b e j _ _ i h) ?_)
 rintro _ l _ n ⟨rfl, rfl⟩
 refine Ec Z<|Ea Z<|fb<|fx<|?_
 obtain m := gq H
 subst f
 refine ⟨(.inl Z), [(.bool (dcd (e ≥ 0)))], ⟨(.bool (dcd (e ≥ 0))), _, Z, Z, Z⟩, ?_⟩
 exact Sd ⟨Z, Z⟩
theorem yW (p0 : ad2) (g : SV) (a : ad2) (H : rb p0 = some a) (K : Kp) (G : List Ent) (e : Slr Ty.i64 K (sv g) p0) :
  Fc Tryz.prog 100 #[(sv g)] K (G) (fun v c i => ∃ (h : SV) (f : List (List Value)), v = (sv h) ∧ K = c ∧ (.row (sv h) 3 1 f.flatten) :: G = i ∧ RowR Ty.i64 c f a) := by
 refine fN Tryz.func100 Z Tryz.ntmps100 Tryz.results100 Z ?_
 unfold rb at H
 refine fc<|fa<|Ea Z<|fb<|fc<|fc<|fa<|Em Z<|Eq Z (pj Z Z Z)<|fb<|?_
 refine fm Z ?_ ?_
 ·intro d
  have n := Slr.nil_of e d
  have H : some [] = some a := by rw [n] at H; simpa [app] using H
  refine fc<|fa<|Ea Z<|fb<|fx<|?_
  obtain j := gq H
  subst a
  refine ⟨(.inl Z), [(sv fB)], ⟨(sv fB), _, Z, Z, Z⟩, ?_⟩
  have k : RowR Ty.i64 K [] [] := RowR.nil
  exact Shift.nilRow 3 1<|Sd<|⟨fB, ([] : List (List Value)), Z, Z, Z, k⟩
 ·intro d
  refine ft<|fc<|fa<|?_
  have l : RowR Ty.i64 K [] [] := RowR.nil
  refine fe Z (Aj (T := Ty.i64) Z Z Z Z Z (fun q => ?_))
  refine Em Z ?_
  obtain ⟨r, o, H⟩ := bnd H
  refine fe Z (gZ (T := Ty.i64) (bytes := 8) Z Z Z Mb0 l (SrcT.sl e) o Z Z Z Z Z Z Z Z (fun b p m => ⟨_, .here, ?_⟩))
  refine Ea Z<|fb<|fx<|?_
  obtain j := gq H
  subst a
  refine ⟨(.inl Z), [(sv b)], ⟨(sv b), _, Z, Z, Z⟩, ?_⟩
  exact Sd ⟨b, p, Z, Z, Z, m⟩
theorem xK (p0 : ad1) (b : SV) (p1 : Op) (A B : SV) (p2 : Result) (g : ad1) (h : Bool) (H : sP p0 p1 p2 = some (g, h)) (K : Kp) (G : List Ent) (s : Slr fH K (sv b) p0) (a7 : Slr fW K (sv A) p1.cases) (a8 : Slr Ty.i64 K (sv B) p1.draws) :
  Fc Tryz.prog 61 #[(sv b), (.agg (fj p1 A B).toArray), (.agg (ff p2).toArray)] K (G) (fun v i f => ∃ (bc : SV), v = (.tuple #[(sv bc), (.bool h)]) ∧ G = f ∧ Slr fH i (sv bc) g) := by
 refine fN Tryz.func61 Z Tryz.ntmps61 Tryz.results61 Z ?_
 unfold sP at H
 refine fc<|fa<|?_
 refine fe Z (fU (cs := [(sv b)]) Z Z Z (fun j => ?_))
 refine fe Z (fU (cs := (fj p1 A B)) Z Z Z (fun a2 => ?_))
 refine fe Z (fU (cs := (ff p2)) Z Z Z (fun a3 => ?_))
 refine Ea Z<|Ea Z<|fb<|fc<|fa<|EL 7 (fj p1 A B) Z (Rb1 Z)<|EF 1 Z<|El (Vi p2.case_) Z (Rb0 Z)<|?_
 obtain ⟨aq, ar, bH, H⟩ := iw H
 refine fe Z (Ek Tryz.call91 Z (xJ p1 A B p2.case_ aq ar bH _ _ a7 a8) ?_)
 rintro _ _ _ - ⟨rfl, rfl, rfl⟩
 refine Em Z<|Ex Z<|Ex Z<|?_
 refine fe Z (fD (cs := (fl (Case.mk false 0 0))) Z Z Z Z (fun t => ?_))
 refine fe Z (Sa (fl aq) Z .here Z ?_)
 refine Ea Z<|fb<|?_
 refine fz (fun m i f => ∃ (o : Bool) (n c : Int), [(3, (Vp j)), (4, (Vp a2)), (5, (Vp a3)), (8, (Vp t)), (9, (.bool ar))] = m ∧ K = i ∧ (.blk t 108 (fl (Case.mk o n c))) :: (.blk a3 38 (ff p2)) :: (.blk a2 51 (fj p1 A B)) :: (.blk j 57 [(sv b)]) :: G = f ∧ q8 ar p2 p1 p0 o n c = some (g, h)) ?_ ?_
 ·refine fc<|fa<|EF 0 Z<|El (Vi p1.kind) Z (Rb2 Z)<|Ec Z<|fb<|?_
  refine fm Z ?_ ?_
  ·intro N
   obtain ⟨N, H⟩ := It N H
   refine fa<|EF 2 Z<|El (Vi p1.channel) Z (Rb2 Z)<|Eq Z (fG (cs := (fl (Case.mk false p1.channel 0))) Z Z Z Z Z Z)<|?_
   refine fe Z (Sa (fl (Case.mk false p1.channel 0)) Z .here Z ?_)
   exact fb<|Pu3<|Pu3<|Pu3<|Pu3<|Sd<|⟨_, by exact R5, false, p1.channel, 0, Z, Z, Z, H⟩
  ·intro N
   obtain ⟨N, H⟩ := If N H
   exact ft<|Pu3<|Pu3<|Pu3<|Pu3<|Sd<|⟨_, by exact R5, aq.send, aq.channel, aq.value, Z, Z, Z, H⟩
 rintro _ _ _ - ⟨o, n, c, rfl, rfl, rfl, H⟩
 unfold q8 at H
 refine fc<|fa<|El (sv b) Z (Rb3 Z)<|EF 1 Z<|El (Vi n) Z (Rb0 Z)<|?_
 obtain ⟨a, bd, bI, H⟩ := iw H
 refine fe Z (Ek Tryz.call92 Z (l9 p0 b n a bd bI _ _ s) ?_)
 rintro _ _ _ - ⟨e, rfl, rfl, rfl, p⟩
 refine Em Z<|Ex Z<|Ex Z<|?_
 refine fe Z (fD (cs := (fy (fL.mk 0 [] false) fB)) Z Z Z Z (fun u => ?_))
 refine fe Z (Sa (fy a e) Z .here Z ?_)
 refine Ea Z<|fb<|?_
 refine fz (fun m i f => [] = m ∧ G = f ∧ iW = some (g, h)) ?_ ?_
 ·refine fc<|fa<|EL 5 (ff p2) Z (Rb2 Z)<|fb<|fA<|fc<|fa<|EF 1 Z<|El (Vi p2.case_) Z (Rb2 Z)<|Eq Z (fG (cs := (ff (Result.mk 1 p2.case_ 0 false 0))) Z Z Z Z Z Z)<|Eq Z (jx Z Z (fun w => Result.eqrun p2 (Result.mk 1 p2.case_ 0 false 0) w) (by kernel_rfl))<|Ea Z<|fb<|?_
  refine fm Z ?_ ?_
  ·intro O
   obtain ⟨O, H⟩ := It O H
   refine fz (fun m i f => ∃ (aN : Bool), [(3, (Vp j)), (8, (Vp t)), (10, (Vp u)), (51, (.bool aN))] = m ∧ K = i ∧ (.blk u 104 (fy a e)) :: (.blk t 108 (fl (Case.mk o n c))) :: (.blk j 57 [(sv b)]) :: G = f ∧ mX a o n c p0 aN = some (g, h)) ?_ ?_
   ·refine fa<|Em Z<|Em Z<|?_
    refine Ee Z ?_ ?_
    ·intro au
     have H := ift au H
     refine VF 0 Z<|Vl (.bool o) Z (Rb1 Z)<|Et Z<|Em Z<|?_
     refine Ee Z ?_ ?_
     ·intro av
      have H := ift av H
      refine Vm Z<|Et Z<|Em Z<|?_
      refine Ee Z ?_ ?_
      ·intro aw
       have H := ift aw H
       refine VL 3 (fy a e) Z (Rb0 Z) ?_
       obtain ⟨be, bJ, H⟩ := bnd H
       refine hQ Z Z Z Z (Ek Tryz.call93 Z (Eg a e be bJ _ _ p) ?_)
       rintro _ _ _ - ⟨rfl, rfl, rfl⟩
       exact Et Z<|fb<|Pu4<|Pu2<|Pu2<|Re3<|Re3<|Sd<|⟨_, by exact R4, be, Z, Z, Z, H⟩
      ·intro aw
       have H := f0 (btf aw) H
       exact Ez Z<|Ez Z<|Ef Z<|fb<|Pu4<|Pu2<|Pu2<|Re3<|Re3<|Sd<|⟨_, by exact R4, false, Z, Z, Z, H⟩
     ·intro av
      have H := f0 (btf av) H
      exact Ez Z<|Ef Z<|Em Z<|Ez Z<|Ez Z<|Ef Z<|fb<|Pu4<|Pu2<|Pu2<|Re3<|Re3<|Sd<|⟨_, by exact R4, false, Z, Z, Z, H⟩
    ·intro au
     have H := f0 (btf au) H
     exact Ez Z<|Ez Z<|Ef Z<|Em Z<|Ez Z<|Ef Z<|Em Z<|Ez Z<|Ez Z<|Ef Z<|fb<|Pu4<|Pu2<|Pu2<|Re3<|Re3<|Sd<|⟨_, by exact R4, false, Z, Z, Z, H⟩
   rintro _ _ _ - ⟨aN, rfl, rfl, rfl, H⟩
   unfold mX at H
   refine fm Z ?_ ?_
   ·intro ax
    have H := ift ax H
    refine fz (fun m i f => ∃ (ap : SV) (J : ad2) (aM : List (List Value)), [(3, (Vp j)), (8, (Vp t)), (10, (Vp u))] = m ∧ K = i ∧ (.blk u 104 (fy (fL.mk a.capacity J a.closed) ap)) :: (.blk t 108 (fl (Case.mk o n c))) :: (.blk j 57 [(sv b)]) :: (.row (sv ap) 36 1 aM.flatten) :: G = f ∧ vB a o n c p0 J = some (g, h) ∧ RowR Ty.u64 i aM J) ?_ ?_
    ·obtain ⟨a0, aK, H⟩ := bnd H
     obtain ⟨L, aL, H⟩ := bnd H
     refine fw _ Z (Ic Mb1 (Ic Mb2 In0))<|JF 0 1 Z<|JF 3 2 Z<|Jl 4 (.int .u64 c) Z (Rb0 Z)<|?_
     refine gW 1 5 (by kernel_rfl) ?_ ?_
     ·refine id (Jyq Z (gr (v := (sv e)) Z Z Z (Rb0 Z)) ⟨(Ic Mb1 (Ic Mb2 In0)), ?_⟩)
      refine gW 2 5 (by kernel_rfl) ?_ ?_
      ·refine id (Jy Z ?_)
       refine Ek Tryz.call94 Z (tL a.buffer e a0 aK _ _ p) ?_
       rintro _ _ _ - ⟨ci, cc, rfl, rfl, rfl, bq⟩
       refine ⟨(Ic Mb2 (Ic Mb3 In0)), ?_⟩
       refine Ao 5 Z ?_
       have a4 : RowR Ty.u64 K [[(.int .u64 c)]] [c] := RowR.cons Z (RowR.nil)
       refine gh (T := Ty.u64) (rows := [[(.int .u64 c)]]) (l := [c]) Z Z Z a4 Z Z Z Z Z Z Z Z (fun cj => ⟨(Ic Mb3 (Ic Mb4 In0)), ?_⟩)
       refine Ao 6 Z ?_
       refine gZ (T := Ty.u64) (bytes := 8) Z Z Z Mb1 bq (SrcT.row Mb0 a4 Z) aL Z Z Z Z Z Z Z Z (fun aU bQ bm => ⟨_, (.there .here), ⟨(Ic Mb3 (Ic Mb4 In0)), ?_⟩⟩)
       refine Aw.shift (Re0 (Sd ⟨(Ic Mb2 (Ic Mb3 In0)), ?_⟩))
       refine JF 7 1 Z ?_
       refine Ao 8 Z ?_
       refine So [(sv aU)] (fy (fL.mk a.capacity L a.closed) aU) Z (.there .here) Z ⟨(Ic Mb2 (Ic Mb3 In0)), ?_⟩
       exact Ad<|Pu3<|Pu3<|Pu3<|Sd<|⟨_, by exact R3, aU, L, bQ, Z, Z, Z, H, bm⟩
      ·refine id (Jy Z ?_)
       have a5 : RowR Ty.u64 K [[(.int .u64 c)]] [c] := RowR.cons Z (RowR.nil)
       refine gh (T := Ty.u64) (rows := [[(.int .u64 c)]]) (l := [c]) Z Z Z a5 Z Z Z Z Z Z Z Z (fun ck => ⟨(Ic Mb2 (Ic Mb3 In0)), ?_⟩)
       refine Ao 2 Z ?_
       refine Ek Tryz.call94 Z (tL a.buffer e a0 aK _ _ p) ?_
       rintro _ _ _ - ⟨cl, cd, rfl, rfl, rfl, br⟩
       refine ⟨(Ic Mb3 (Ic Mb4 In0)), ?_⟩
       refine Ao 6 Z ?_
       refine gZ (T := Ty.u64) (bytes := 8) Z Z Z Mb0 br (SrcT.row Mb1 a5 Z) aL Z Z Z Z Z Z Z Z (fun aV bR bn => ⟨_, .here, ⟨(Ic Mb3 (Ic Mb4 In0)), ?_⟩⟩)
       refine Aw.shift (Re1 (Sd ⟨(Ic Mb2 (Ic Mb3 In0)), ?_⟩))
       refine JF 7 1 Z ?_
       refine Ao 8 Z ?_
       refine So [(sv aV)] (fy (fL.mk a.capacity L a.closed) aV) Z (.there .here) Z ⟨(Ic Mb2 (Ic Mb3 In0)), ?_⟩
       exact Ad<|Pu3<|Pu3<|Pu3<|Sd<|⟨_, by exact R3, aV, L, bR, Z, Z, Z, H, bn⟩
     ·refine id (Jy Z ?_)
      have a6 : RowR Ty.u64 K [[(.int .u64 c)]] [c] := RowR.cons Z (RowR.nil)
      refine gh (T := Ty.u64) (rows := [[(.int .u64 c)]]) (l := [c]) Z Z Z a6 Z Z Z Z Z Z Z Z (fun cm => ⟨(Ic Mb2 (Ic Mb3 In0)), ?_⟩)
      refine gB 1 (by kernel_rfl) (Jyq Z (gr (v := (sv e)) Z Z Z (Rb1 Z)) ⟨(Ic Mb2 (Ic Mb3 In0)), ?_⟩)
      refine Ao 2 Z ?_
      refine Ek Tryz.call94 Z (tL a.buffer e a0 aK _ _ p) ?_
      rintro _ _ _ - ⟨cn, ce, rfl, rfl, rfl, bs⟩
      refine ⟨(Ic Mb3 (Ic Mb4 In0)), ?_⟩
      refine Ao 6 Z ?_
      refine gZ (T := Ty.u64) (bytes := 8) Z Z Z Mb0 bs (SrcT.row Mb1 a6 Z) aL Z Z Z Z Z Z Z Z (fun aW bS bo => ⟨_, .here, ⟨(Ic Mb3 (Ic Mb4 In0)), ?_⟩⟩)
      refine Aw.shift (Re1 (Sd ⟨(Ic Mb2 (Ic Mb3 In0)), ?_⟩))
      refine JF 7 1 Z ?_
      refine Ao 8 Z ?_
      refine So [(sv aW)] (fy (fL.mk a.capacity L a.closed) aW) Z (.there .here) Z ⟨(Ic Mb2 (Ic Mb3 In0)), ?_⟩
      exact Ad<|Pu3<|Pu3<|Pu3<|Sd<|⟨_, by exact R3, aW, L, bS, Z, Z, Z, H, bo⟩
    rintro _ _ _ - ⟨ap, J, aM, rfl, rfl, rfl, H, bl⟩
    unfold vB at H
    refine fc<|fa<|El (sv b) Z (Rb2 Z)<|EF 1 Z<|El (Vi n) Z (Rb1 Z)<|EL 3 (fy (fL.mk a.capacity J a.closed) ap) Z (Rb0 Z)<|?_
    refine Ow.shift (Shift.settle (T := Ty.u64) (.there (.there (.there .here))) bl Z (fun bY bi bt => Sd ?_))
    obtain ⟨bU, bK, H⟩ := bnd H
    have bu := s.mono bi
    refine fe Z (Ek Tryz.call95 Z (xA p0 b n (fL.mk a.capacity J a.closed) ap bU bK _ _ bu bt) ?_)
    rintro _ _ _ - ⟨aX, cf, rfl, rfl, rfl, bv⟩
    refine Ea Z<|Ea Z<|fb<|fx<|?_
    obtain ⟨x, y⟩ := ic H
    subst g h
    refine ⟨(.inl Z), [(sv aX), (.bool true)], ⟨(sv aX), _, Z, Z, ⟨(.bool true), _, Z, Z, Z⟩⟩, ?_⟩
    refine Shift.settle (T := fH) .here bv Z ?_
    intro bZ b7 bw
    exact Re0<|Re0<|Re0<|Re0<|Re0<|Sd<|⟨aX, Z, Z, bw⟩
   ·intro ax
    have H := f0 (btf ax) H
    exact ft<|Re0<|Re0<|Re0<|Sd<|⟨[], trivial, Z, Z, H⟩
  ·intro O
   obtain ⟨O, H⟩ := If O H
   refine fc<|fa<|EF 1 Z<|El (Vi p2.case_) Z (Rb2 Z)<|EF 2 Z<|El (.int .u64 p2.value) Z (Rb2 Z)<|Eq Z (fG (cs := (ff (Result.mk 2 p2.case_ p2.value true 0))) Z Z Z Z Z Z)<|Eq Z (jx Z Z (fun w => Result.eqrun p2 (Result.mk 2 p2.case_ p2.value true 0) w) (by kernel_rfl))<|Ea Z<|fb<|?_
   refine fm Z ?_ ?_
   ·intro P
    obtain ⟨P, H⟩ := It P H
    refine fz (fun m i f => ∃ (aO : Bool), [(3, (Vp j)), (8, (Vp t)), (10, (Vp u)), (95, (.bool aO))] = m ∧ K = i ∧ (.blk u 104 (fy a e)) :: (.blk t 108 (fl (Case.mk o n c))) :: (.blk j 57 [(sv b)]) :: G = f ∧ qj a o n c p0 aO = some (g, h)) ?_ ?_
    ·rcases gY ar with r | r <;> revert r
     ·intro z
      have H := ift z H
      rcases gY (!(o)) with r | r <;> revert r
      ·intro q
       have q := iv q
       have H := f0 (btf q) H
       rcases gY bd with r | r <;> revert r
       ·intro I
        have H := ift I H
        rcases gY (dcd ((a.buffer.length : Int) > 0)) with r | r <;> revert r
        ·intro C
         obtain ⟨C, H⟩ := It C H
         obtain ⟨bf, a9, H⟩ := bnd H
         refine fw _ Z (Ic Mb0 (Ic Mb1 (Ic Mb2 (Ic Mb3 (Ic Mb4 In0)))))<|Jm 0 Z<|Jm 1 Z<|Aw.known (d := 73) Z (z)<|BF 2 0 Z<|Bl 3 (.bool o) Z (Rb1 Z)<|Bq 4 Z (gf Z)<|Jt 5 Z<|Jm 6 Z<|Aw.known (d := 78) Z (lB (q))<|Bm 7 Z<|Jt 8 Z<|Jm 9 Z<|Aw.known (d := 81) Z (I)<|BF 10 1 Z<|Bl 11 (sv e) Z (Rb0 Z)<|Bq 12 Z (ge (T := Ty.u64) p Z Z)<|Bc 13 Z<|Jt 14 Z<|Jm 15 Z<|Aw.known (d := 87) Z (hX C)<|BF 16 1 Z<|?_
         refine Bl 17 (sv e) Z (Rb0 Z) ?_
         obtain ⟨_, rfl, bp⟩ := Slr.at p a9
         exact Bq 18 Z (Qi (T := Ty.u64) p a9 Z)<|Bl 19 (.int .u64 bf) Z (Rdc.k bp Z)<|BF 20 2 Z<|Bl 21 (.int .u64 p2.value) Z (Rb2 Z)<|Bc 22 Z<|Jt 23 Z<|Ad<|Pu4<|Pu2<|Pu2<|Re3<|Re3<|Sd<|⟨_, by exact R4, (dcd (bf = p2.value)), Z, Z, Z, H⟩
        ·intro C
         obtain ⟨C, H⟩ := If C H
         refine fw _ Z (Ic Mb0 (Ic Mb1 (Ic Mb2 (Ic Mb3 (Ic Mb4 In0)))))<|Jm 0 Z<|Jm 1 Z<|Aw.known (d := 73) Z (z)<|BF 2 0 Z<|Bl 3 (.bool o) Z (Rb1 Z)<|Bq 4 Z (gf Z)<|Jt 5 Z<|Jm 6 Z<|Aw.known (d := 78) Z (lB (q))<|Bm 7 Z<|Jt 8 Z<|Jm 9 Z<|Aw.known (d := 81) Z (I)<|BF 10 1 Z<|Bl 11 (sv e) Z (Rb0 Z)<|Bq 12 Z (ge (T := Ty.u64) p Z Z)<|Bc 13 Z<|Jt 14 Z<|Jm 15 Z<|Aw.known (d := 87) Z (iE C)<|Jz 16 Z<|?_
         exact Jz 17 Z<|Jz 18 Z<|Jz 19 Z<|Jz 20 Z<|Jz 21 Z<|Jz 22 Z<|Jf 23 Z<|Ad<|Pu4<|Pu2<|Pu2<|Re3<|Re3<|Sd<|⟨_, by exact R4, false, Z, Z, Z, H⟩
       ·intro I
        have H := f0 (btf I) H
        refine fw _ Z (Ic Mb0 (Ic Mb1 (Ic Mb2 (Ic Mb3 (Ic Mb4 In0)))))<|Jm 0 Z<|Jm 1 Z<|Aw.known (d := 73) Z (z)<|BF 2 0 Z<|Bl 3 (.bool o) Z (Rb1 Z)<|Bq 4 Z (gf Z)<|Jt 5 Z<|Jm 6 Z<|Aw.known (d := 78) Z (lB (q))<|Bm 7 Z<|Jt 8 Z<|Jm 9 Z<|Aw.known (d := 81) Z (I)<|Jz 10 Z<|Jz 11 Z<|Jz 12 Z<|Jz 13 Z<|Jf 14 Z<|Jm 15 Z<|Jz 16 Z<|Jz 17 Z<|?_
        exact Jz 18 Z<|Jz 19 Z<|Jz 20 Z<|Jz 21 Z<|Jz 22 Z<|Jf 23 Z<|Ad<|Pu4<|Pu2<|Pu2<|Re3<|Re3<|Sd<|⟨_, by exact R4, false, Z, Z, Z, H⟩
      ·intro q
       have q := ir q
       have H := ift q H
       refine fw _ Z (Ic Mb0 (Ic Mb1 (Ic Mb2 (Ic Mb3 (Ic Mb4 In0)))))<|Jm 0 Z<|Jm 1 Z<|Aw.known (d := 73) Z (z)<|BF 2 0 Z<|Bl 3 (.bool o) Z (Rb1 Z)<|Bq 4 Z (gf Z)<|Jt 5 Z<|Jm 6 Z<|Aw.known (d := 78) Z (lA (q))<|Jz 7 Z<|Jf 8 Z<|Jm 9 Z<|Jz 10 Z<|Jz 11 Z<|Jz 12 Z<|Jz 13 Z<|Jf 14 Z<|Jm 15 Z<|Jz 16 Z<|Jz 17 Z<|Jz 18 Z<|?_
       exact Jz 19 Z<|Jz 20 Z<|Jz 21 Z<|Jz 22 Z<|Jf 23 Z<|Ad<|Pu4<|Pu2<|Pu2<|Re3<|Re3<|Sd<|⟨_, by exact R4, false, Z, Z, Z, H⟩
     ·intro z
      have H := f0 (btf z) H
      refine fw _ Z (Ic Mb0 (Ic Mb1 (Ic Mb2 (Ic Mb3 (Ic Mb4 In0)))))<|Jm 0 Z<|Jm 1 Z<|Aw.known (d := 73) Z (z)<|Jz 2 Z<|Jz 3 Z<|Jz 4 Z<|Jf 5 Z<|Jm 6 Z<|Jz 7 Z<|Jf 8 Z<|Jm 9 Z<|Jz 10 Z<|Jz 11 Z<|Jz 12 Z<|Jz 13 Z<|Jf 14 Z<|Jm 15 Z<|Jz 16 Z<|Jz 17 Z<|Jz 18 Z<|Jz 19 Z<|?_
      exact Jz 20 Z<|Jz 21 Z<|Jz 22 Z<|Jf 23 Z<|Ad<|Pu4<|Pu2<|Pu2<|Re3<|Re3<|Sd<|⟨_, by exact R4, false, Z, Z, Z, H⟩
    rintro _ _ _ - ⟨aO, rfl, rfl, rfl, H⟩
    unfold qj at H
    refine fm Z ?_ ?_
    ·intro ay
     have H := ift ay H
     refine fc<|fa<|EF 1 Z<|El (sv e) Z (Rb0 Z)<|?_
     obtain ⟨a1, ba, H⟩ := bnd H
     have bx := Slr.cutL p ba
     refine Eq Z (lg (T := Ty.u64) p ba Z Z Z Z Z)<|EF 1 Z<|?_
     refine fe Z (So [(sv (iR e 1 ((1 : Int).toNat) a.buffer.length))] (fy (fL.mk a.capacity a1 a.closed) (iR e 1 ((1 : Int).toNat) a.buffer.length)) Z .here Z ?_)
     refine fb<|fc<|fa<|El (sv b) Z (Rb2 Z)<|EF 1 Z<|El (Vi n) Z (Rb1 Z)<|EL 3 (fy (fL.mk a.capacity a1 a.closed) (iR e 1 ((1 : Int).toNat) a.buffer.length)) Z (Rb0 Z)<|?_
     obtain ⟨bV, bL, H⟩ := bnd H
     refine fe Z (Ek Tryz.call95 Z (xA p0 b n (fL.mk a.capacity a1 a.closed) (iR e 1 ((1 : Int).toNat) a.buffer.length) bV bL _ _ s bx) ?_)
     rintro _ _ _ - ⟨aY, cg, rfl, rfl, rfl, bz⟩
     refine Ea Z<|Ea Z<|fb<|fx<|?_
     obtain ⟨x, y⟩ := ic H
     subst g h
     refine ⟨(.inl Z), [(sv aY), (.bool true)], ⟨(sv aY), _, Z, Z, ⟨(.bool true), _, Z, Z, Z⟩⟩, ?_⟩
     refine Shift.settle (T := fH) .here bz Z ?_
     intro b0 b8 bA
     exact Re0<|Re0<|Re0<|Re0<|Sd<|⟨aY, Z, Z, bA⟩
    ·intro ay
     have H := f0 (btf ay) H
     exact ft<|Re0<|Re0<|Re0<|Sd<|⟨[], trivial, Z, Z, H⟩
   ·intro P
    obtain ⟨P, H⟩ := If P H
    refine fc<|fa<|EF 1 Z<|El (Vi p2.case_) Z (Rb2 Z)<|Eq Z (fG (cs := (ff (Result.mk 2 p2.case_ 0 false 0))) Z Z Z Z Z Z)<|Eq Z (jx Z Z (fun w => Result.eqrun p2 (Result.mk 2 p2.case_ 0 false 0) w) (by kernel_rfl))<|Ea Z<|fb<|?_
    refine fm Z ?_ ?_
    ·intro Q
     obtain ⟨Q, H⟩ := It Q H
     refine fz (fun m i f => ∃ (aP : Bool), [(3, (Vp j)), (128, (.bool aP))] = m ∧ K = i ∧ (.blk j 57 [(sv b)]) :: G = f ∧ tt p0 aP = some (g, h)) ?_ ?_
     ·refine fa<|Em Z<|Em Z<|?_
      refine Ee Z ?_ ?_
      ·intro az
       have H := ift az H
       refine VF 0 Z<|Vl (.bool o) Z (Rb1 Z)<|Vq Z (gf Z)<|Et Z<|Em Z<|?_
       refine Ee Z ?_ ?_
       ·intro D
        have D := iv D
        have H := f0 (btf D) H
        refine Vm Z<|Et Z<|Em Z<|?_
        refine Ee Z ?_ ?_
        ·intro aA
         have H := ift aA H
         refine VF 1 Z<|Vl (sv e) Z (Rb0 Z)<|Vq Z (ge (T := Ty.u64) p Z Z)<|Vc Z<|Et Z<|Em Z<|?_
         refine Ee Z ?_ ?_
         ·intro R
          obtain ⟨R, H⟩ := It R H
          exact VF 2 Z<|Vl (.bool a.closed) Z (Rb0 Z)<|Et Z<|fb<|Pu4<|Re1<|Re1<|Re1<|Re1<|Sd<|⟨_, by exact R2, a.closed, Z, Z, Z, H⟩
         ·intro R
          obtain ⟨R, H⟩ := If R H
          exact Ez Z<|Ez Z<|Ef Z<|fb<|Pu4<|Re1<|Re1<|Re1<|Re1<|Sd<|⟨_, by exact R2, false, Z, Z, Z, H⟩
        ·intro aA
         have H := f0 (btf aA) H
         exact Ez Z<|Ez Z<|Ez Z<|Ez Z<|Ef Z<|Em Z<|Ez Z<|Ez Z<|Ef Z<|fb<|Pu4<|Re1<|Re1<|Re1<|Re1<|Sd<|⟨_, by exact R2, false, Z, Z, Z, H⟩
       ·intro D
        have D := ir D
        have H := ift D H
        exact Ez Z<|Ef Z<|Em Z<|Ez Z<|Ez Z<|Ez Z<|Ez Z<|Ef Z<|Em Z<|Ez Z<|Ez Z<|Ef Z<|fb<|Pu4<|Re1<|Re1<|Re1<|Re1<|Sd<|⟨_, by exact R2, false, Z, Z, Z, H⟩
      ·intro az
       have H := f0 (btf az) H
       refine Ez Z<|Ez Z<|Ez Z<|Ef Z<|Em Z<|Ez Z<|Ef Z<|Em Z<|Ez Z<|Ez Z<|Ez Z<|Ez Z<|Ef Z<|Em Z<|Ez Z<|Ez Z<|Ef Z<|fb<|Pu4<|Re1<|Re1<|Re1<|?_
       exact Re1<|Sd<|⟨_, by exact R2, false, Z, Z, Z, H⟩
     rintro _ _ _ - ⟨aP, rfl, rfl, rfl, H⟩
     unfold tt at H
     refine fm Z ?_ ?_
     ·intro aB
      have H := ift aB H
      refine fc<|fa<|El (sv b) Z (Rb0 Z)<|Ea Z<|Ea Z<|fb<|fx<|?_
      obtain ⟨x, y⟩ := ic H
      subst g h
      refine ⟨(.inl Z), [(sv b), (.bool true)], ⟨(sv b), _, Z, Z, ⟨(.bool true), _, Z, Z, Z⟩⟩, ?_⟩
      exact Re0<|Sd<|⟨b, Z, Z, s⟩
     ·intro aB
      have H := f0 (btf aB) H
      exact ft<|Re0<|Sd<|⟨[], trivial, Z, Z, H⟩
    ·intro Q
     obtain ⟨Q, H⟩ := If Q H
     refine fc<|fa<|EF 1 Z<|El (Vi p2.case_) Z (Rb2 Z)<|Eq Z (fG (cs := (ff (Result.mk 5 p2.case_ 0 false 0))) Z Z Z Z Z Z)<|Eq Z (jx Z Z (fun w => Result.eqrun p2 (Result.mk 5 p2.case_ 0 false 0) w) (by kernel_rfl))<|Ea Z<|fb<|?_
     refine fm Z ?_ ?_
     ·intro S
      obtain ⟨S, H⟩ := It S H
      refine fz (fun m i f => ∃ (aQ : Bool), [(3, (Vp j)), (164, (.bool aQ))] = m ∧ K = i ∧ (.blk j 57 [(sv b)]) :: G = f ∧ ks p0 aQ = some (g, h)) ?_ ?_
      ·refine fa<|Em Z<|Em Z<|?_
       refine Ee Z ?_ ?_
       ·intro aC
        have H := ift aC H
        refine VF 0 Z<|Vl (.bool o) Z (Rb1 Z)<|Et Z<|Em Z<|?_
        refine Ee Z ?_ ?_
        ·intro aD
         have H := ift aD H
         refine Vm Z<|Et Z<|Em Z<|?_
         refine Ee Z ?_ ?_
         ·intro U
          have H := ift U H
          refine VF 2 Z<|Vl (.bool a.closed) Z (Rb0 Z)<|Et Z<|Em Z<|?_
          refine Ee Z ?_ ?_
          ·intro aE
           have H := ift aE H
           refine Ez Z<|Ez Z<|Ez Z<|Ez Z<|ga Z Z Z Z rfl<|ga Z Z Z Z rfl<|ga Z Z Z Z rfl<|Ez Z<|Ez Z<|ga Z Z Z Z rfl<|ga Z Z Z Z rfl<|ga Z Z Z Z rfl<|ga Z Z Z Z rfl<|ga Z Z Z Z rfl<|ga Z Z Z Z rfl<|Ez Z<|Et Z<|fb<|Pu4<|Re1<|Re1<|Re1<|?_
           exact Re1<|Sd<|⟨_, by exact R2, true, Z, Z, Z, H⟩
          ·intro aE
           have H := f0 (btf aE) H
           refine VF 0 Z<|Vl (Vi p1.kind) Z (Rb3 Z)<|Vc Z<|Vm Z<|?_
           refine Ee Z ?_ ?_
           ·intro V
            obtain ⟨V, H⟩ := It V H
            refine VF 1 Z<|Vl (Vi p2.case_) Z (Rb2 Z)<|Vc Z<|Vt Z<|Vm Z<|?_
            refine Ee Z ?_ ?_
            ·intro W
             obtain ⟨W, H⟩ := It W H
             exact Vm Z<|Vq Z (gf Z)<|Vm Z<|Ow.known (d := 159) Z (lA (U))<|VF 2 Z<|Vl (.bool a.closed) Z (Rb0 Z)<|Vf Z<|Vt Z<|Ef Z<|fb<|Pu4<|Re1<|Re1<|Re1<|Re1<|Sd<|⟨_, by exact R2, a.closed, Z, Z, Z, H⟩
            ·intro W
             obtain ⟨W, H⟩ := If W H
             exact Ez Z<|Ez Z<|Ez Z<|ga Z Z Z Z rfl<|ga Z Z Z Z rfl<|Ez Z<|Vf Z<|Ef Z<|fb<|Pu4<|Re1<|Re1<|Re1<|Re1<|Sd<|⟨_, by exact R2, false, Z, Z, Z, H⟩
           ·intro V
            obtain ⟨V, H⟩ := If V H
            exact Ez Z<|Ez Z<|Ez Z<|Vf Z<|Vm Z<|Ez Z<|Ez Z<|Ez Z<|ga Z Z Z Z rfl<|ga Z Z Z Z rfl<|Ez Z<|Vf Z<|Ef Z<|fb<|Pu4<|Re1<|Re1<|Re1<|Re1<|Sd<|⟨_, by exact R2, false, Z, Z, Z, H⟩
         ·intro U
          have H := f0 (btf U) H
          refine Ez Z<|Ez Z<|Ef Z<|Em Z<|VF 0 Z<|Vl (Vi p1.kind) Z (Rb3 Z)<|Vc Z<|Vm Z<|?_
          refine Ee Z ?_ ?_
          ·intro X
           obtain ⟨X, H⟩ := It X H
           refine VF 1 Z<|Vl (Vi p2.case_) Z (Rb2 Z)<|Vc Z<|Vt Z<|Vm Z<|?_
           refine Ee Z ?_ ?_
           ·intro Y
            obtain ⟨Y, H⟩ := It Y H
            exact Vm Z<|Vq Z (gf Z)<|Vm Z<|Ow.known (d := 159) Z (lB (U))<|Ez Z<|Ez Z<|Vt Z<|Vt Z<|Ef Z<|fb<|Pu4<|Re1<|Re1<|Re1<|Re1<|Sd<|⟨_, by exact R2, true, Z, Z, Z, H⟩
           ·intro Y
            obtain ⟨Y, H⟩ := If Y H
            exact Ez Z<|Ez Z<|Ez Z<|ga Z Z Z Z rfl<|ga Z Z Z Z rfl<|Ez Z<|Vf Z<|Ef Z<|fb<|Pu4<|Re1<|Re1<|Re1<|Re1<|Sd<|⟨_, by exact R2, false, Z, Z, Z, H⟩
          ·intro X
           obtain ⟨X, H⟩ := If X H
           exact Ez Z<|Ez Z<|Ez Z<|Vf Z<|Vm Z<|Ez Z<|Ez Z<|Ez Z<|ga Z Z Z Z rfl<|ga Z Z Z Z rfl<|Ez Z<|Vf Z<|Ef Z<|fb<|Pu4<|Re1<|Re1<|Re1<|Re1<|Sd<|⟨_, by exact R2, false, Z, Z, Z, H⟩
        ·intro aD
         have H := f0 (btf aD) H
         refine Ez Z<|Ef Z<|Em Z<|Ez Z<|Ez Z<|Ef Z<|Em Z<|VF 0 Z<|Vl (Vi p1.kind) Z (Rb3 Z)<|Vc Z<|Vm Z<|?_
         refine Ee Z ?_ ?_
         ·intro aa
          obtain ⟨aa, H⟩ := It aa H
          refine VF 1 Z<|Vl (Vi p2.case_) Z (Rb2 Z)<|Vc Z<|Vt Z<|Vm Z<|?_
          refine Ee Z ?_ ?_
          ·intro ab
           obtain ⟨ab, H⟩ := It ab H
           refine Vm Z<|Vq Z (gf Z)<|Vm Z<|?_
           refine Ee Z ?_ ?_
           ·intro E
            have E := iv E
            have H := f0 (btf E) H
            exact Ez Z<|Ez Z<|Vt Z<|Vt Z<|Ef Z<|fb<|Pu4<|Re1<|Re1<|Re1<|Re1<|Sd<|⟨_, by exact R2, true, Z, Z, Z, H⟩
           ·intro E
            have E := ir E
            have H := ift E H
            exact VF 2 Z<|Vl (.bool a.closed) Z (Rb0 Z)<|Vf Z<|Vt Z<|Ef Z<|fb<|Pu4<|Re1<|Re1<|Re1<|Re1<|Sd<|⟨_, by exact R2, a.closed, Z, Z, Z, H⟩
          ·intro ab
           obtain ⟨ab, H⟩ := If ab H
           exact Ez Z<|Ez Z<|Ez Z<|ga Z Z Z Z rfl<|ga Z Z Z Z rfl<|Ez Z<|Vf Z<|Ef Z<|fb<|Pu4<|Re1<|Re1<|Re1<|Re1<|Sd<|⟨_, by exact R2, false, Z, Z, Z, H⟩
         ·intro aa
          obtain ⟨aa, H⟩ := If aa H
          exact Ez Z<|Ez Z<|Ez Z<|Vf Z<|Vm Z<|Ez Z<|Ez Z<|Ez Z<|ga Z Z Z Z rfl<|ga Z Z Z Z rfl<|Ez Z<|Vf Z<|Ef Z<|fb<|Pu4<|Re1<|Re1<|Re1<|Re1<|Sd<|⟨_, by exact R2, false, Z, Z, Z, H⟩
       ·intro aC
        have H := f0 (btf aC) H
        refine Ez Z<|Ez Z<|Ef Z<|Em Z<|Ez Z<|Ef Z<|Em Z<|Ez Z<|Ez Z<|Ef Z<|Em Z<|VF 0 Z<|Vl (Vi p1.kind) Z (Rb3 Z)<|Vc Z<|Vm Z<|?_
        refine Ee Z ?_ ?_
        ·intro ac
         obtain ⟨ac, H⟩ := It ac H
         refine VF 1 Z<|Vl (Vi p2.case_) Z (Rb2 Z)<|Vc Z<|Vt Z<|Vm Z<|?_
         refine Ee Z ?_ ?_
         ·intro ad
          obtain ⟨ad, H⟩ := It ad H
          refine Vm Z<|Vq Z (gf Z)<|Vm Z<|?_
          refine Ee Z ?_ ?_
          ·intro F
           have F := iv F
           have H := f0 (btf F) H
           exact Ez Z<|Ez Z<|Vt Z<|Vt Z<|Ef Z<|fb<|Pu4<|Re1<|Re1<|Re1<|Re1<|Sd<|⟨_, by exact R2, true, Z, Z, Z, H⟩
          ·intro F
           have F := ir F
           have H := ift F H
           exact VF 2 Z<|Vl (.bool a.closed) Z (Rb0 Z)<|Vf Z<|Vt Z<|Ef Z<|fb<|Pu4<|Re1<|Re1<|Re1<|Re1<|Sd<|⟨_, by exact R2, a.closed, Z, Z, Z, H⟩
         ·intro ad
          obtain ⟨ad, H⟩ := If ad H
          exact Ez Z<|Ez Z<|Ez Z<|ga Z Z Z Z rfl<|ga Z Z Z Z rfl<|Ez Z<|Vf Z<|Ef Z<|fb<|Pu4<|Re1<|Re1<|Re1<|Re1<|Sd<|⟨_, by exact R2, false, Z, Z, Z, H⟩
        ·intro ac
         obtain ⟨ac, H⟩ := If ac H
         exact Ez Z<|Ez Z<|Ez Z<|Vf Z<|Vm Z<|Ez Z<|Ez Z<|Ez Z<|ga Z Z Z Z rfl<|ga Z Z Z Z rfl<|Ez Z<|Vf Z<|Ef Z<|fb<|Pu4<|Re1<|Re1<|Re1<|Re1<|Sd<|⟨_, by exact R2, false, Z, Z, Z, H⟩
      rintro _ _ _ - ⟨aQ, rfl, rfl, rfl, H⟩
      unfold ks at H
      refine fm Z ?_ ?_
      ·intro aF
       have H := ift aF H
       refine fc<|fa<|El (sv b) Z (Rb0 Z)<|Ea Z<|Ea Z<|fb<|fx<|?_
       obtain ⟨x, y⟩ := ic H
       subst g h
       refine ⟨(.inl Z), [(sv b), (.bool true)], ⟨(sv b), _, Z, Z, ⟨(.bool true), _, Z, Z, Z⟩⟩, ?_⟩
       exact Re0<|Sd<|⟨b, Z, Z, s⟩
      ·intro aF
       have H := f0 (btf aF) H
       exact ft<|Re0<|Sd<|⟨[], trivial, Z, Z, H⟩
     ·intro S
      obtain ⟨S, H⟩ := If S H
      refine fc<|fa<|Eq Z (fG (cs := (ff (Result.mk 6 (-1) 0 false 0))) Z Z Z Z Z Z)<|Eq Z (jx Z Z (fun w => Result.eqrun p2 (Result.mk 6 (-1) 0 false 0) w) (by kernel_rfl))<|Ea Z<|fb<|?_
      refine fm Z ?_ ?_
      ·intro ae
       obtain ⟨ae, H⟩ := It ae H
       refine fz (fun m i f => ∃ (aR : Bool), [(3, (Vp j)), (8, (Vp t)), (10, (Vp u)), (179, (.bool aR))] = m ∧ K = i ∧ (.blk u 104 (fy a e)) :: (.blk t 108 (fl (Case.mk o n c))) :: (.blk j 57 [(sv b)]) :: G = f ∧ pE a o n c p0 aR = some (g, h)) ?_ ?_
       ·refine fa<|EF 0 Z<|El (Vi p1.kind) Z (Rb3 Z)<|Ec Z<|Em Z<|?_
        refine Ee Z ?_ ?_
        ·intro af
         obtain ⟨af, H⟩ := It af H
         refine Vm Z<|Et Z<|Em Z<|?_
         refine Ee Z ?_ ?_
         ·intro aG
          have H := ift aG H
          exact VF 2 Z<|Vl (.bool a.closed) Z (Rb0 Z)<|Vq Z (gf Z)<|Et Z<|fb<|Pu4<|Pu2<|Pu2<|Re3<|Re3<|Sd<|⟨_, by exact R4, (!(a.closed)), Z, Z, Z, H⟩
         ·intro aG
          have H := f0 (btf aG) H
          exact Ez Z<|Ez Z<|Ez Z<|Ef Z<|fb<|Pu4<|Pu2<|Pu2<|Re3<|Re3<|Sd<|⟨_, by exact R4, false, Z, Z, Z, H⟩
        ·intro af
         obtain ⟨af, H⟩ := If af H
         exact Ez Z<|Ef Z<|Em Z<|Ez Z<|Ez Z<|Ez Z<|Ef Z<|fb<|Pu4<|Pu2<|Pu2<|Re3<|Re3<|Sd<|⟨_, by exact R4, false, Z, Z, Z, H⟩
       rintro _ _ _ - ⟨aR, rfl, rfl, rfl, H⟩
       unfold pE at H
       refine fm Z ?_ ?_
       ·intro aH
        have H := ift aH H
        refine fc<|fa<|EF 2 Z<|?_
        refine fe Z (So [(.bool true)] (fy (fL.mk a.capacity a.buffer true) e) Z .here Z ?_)
        refine fb<|fc<|fa<|El (sv b) Z (Rb2 Z)<|EF 1 Z<|El (Vi n) Z (Rb1 Z)<|EL 3 (fy (fL.mk a.capacity a.buffer true) e) Z (Rb0 Z)<|?_
        obtain ⟨bW, bM, H⟩ := bnd H
        refine fe Z (Ek Tryz.call95 Z (xA p0 b n (fL.mk a.capacity a.buffer true) e bW bM _ _ s p) ?_)
        rintro _ _ _ - ⟨aZ, ch, rfl, rfl, rfl, bB⟩
        refine Ea Z<|Ea Z<|fb<|fx<|?_
        obtain ⟨x, y⟩ := ic H
        subst g h
        refine ⟨(.inl Z), [(sv aZ), (.bool true)], ⟨(sv aZ), _, Z, Z, ⟨(.bool true), _, Z, Z, Z⟩⟩, ?_⟩
        refine Shift.settle (T := fH) .here bB Z ?_
        intro b1 b9 bC
        exact Re0<|Re0<|Re0<|Re0<|Sd<|⟨aZ, Z, Z, bC⟩
       ·intro aH
        have H := f0 (btf aH) H
        exact ft<|Re0<|Re0<|Re0<|Sd<|⟨[], trivial, Z, Z, H⟩
      ·intro ae
       obtain ⟨ae, H⟩ := If ae H
       refine fc<|fa<|Eq Z (fG (cs := (ff (Result.mk 3 (-1) 0 false 0))) Z Z Z Z Z Z)<|Eq Z (jx Z Z (fun w => Result.eqrun p2 (Result.mk 3 (-1) 0 false 0) w) (by kernel_rfl))<|Ea Z<|fb<|?_
       refine fm Z ?_ ?_
       ·intro ag
        obtain ⟨ag, H⟩ := It ag H
        refine fz (fun m i f => ∃ (aS : Bool), [(3, (Vp j)), (198, (.bool aS))] = m ∧ (.blk j 57 [(sv b)]) :: G = f ∧ q7 p0 aS = some (g, h)) ?_ ?_
        ·refine fa<|EF 1 Z<|El (Vi p1.mode) Z (Rb3 Z)<|Ec Z<|Em Z<|?_
         refine Ee Z ?_ ?_
         ·intro ah
          obtain ⟨ah, H⟩ := It ah H
          refine VL 7 (fj p1 A B) Z (Rb3 Z) ?_
          obtain ⟨bg, bN, H⟩ := bnd H
          refine hQ Z Z Z Z (Ek Tryz.call97 Z (qy p1 A B bg bN _ _ a7 a8) ?_)
          rintro _ b2 _ bj ⟨bT, rfl, rfl, bD⟩
          refine Vq Z (lF Z Z) ?_
          obtain ⟨bh, bO, H⟩ := bnd H
          refine Ow.shift (Pu4 (Sd ?_))
          have bE := s.mono bj
          refine hQ Z Z Z Z (Ek Tryz.call96 Z (Du bg bT j p0 b bh bO _ _ bD bE) ?_)
          rintro _ b3 _ ca ⟨rfl, rfl⟩
          exact Vq Z (gf Z)<|Et Z<|fb<|Re1<|Re1<|Re1<|Re1<|Sd<|⟨_, by exact R2, (!(bh)), Z, Z, H⟩
         ·intro ah
          obtain ⟨ah, H⟩ := If ah H
          exact Ez Z<|Ez Z<|Ez Z<|Ez Z<|Ez Z<|Ef Z<|fb<|Pu4<|Re1<|Re1<|Re1<|Re1<|Sd<|⟨_, by exact R2, false, Z, Z, H⟩
        rintro _ b4 _ bk ⟨aS, rfl, rfl, H⟩
        unfold q7 at H
        refine fm Z ?_ ?_
        ·intro aI
         have H := ift aI H
         refine fc<|fa<|El (sv b) Z (Rb0 Z)<|Ea Z<|Ea Z<|fb<|fx<|?_
         obtain ⟨x, y⟩ := ic H
         subst g h
         refine ⟨(.inl Z), [(sv b), (.bool true)], ⟨(sv b), _, Z, Z, ⟨(.bool true), _, Z, Z, Z⟩⟩, ?_⟩
         refine Re0 ?_
         have bF := s.mono bk
         exact Sd ⟨b, Z, Z, bF⟩
        ·intro aI
         have H := f0 (btf aI) H
         exact ft<|Re0<|Sd<|⟨[], trivial, Z, Z, H⟩
       ·intro ag
        obtain ⟨ag, H⟩ := If ag H
        refine fc<|fa<|Eq Z (fG (cs := (ff (Result.mk 4 (-1) 0 false 0))) Z Z Z Z Z Z)<|Eq Z (jx Z Z (fun w => Result.eqrun p2 (Result.mk 4 (-1) 0 false 0) w) (by kernel_rfl))<|Ea Z<|fb<|?_
        refine fm Z ?_ ?_
        ·intro ai
         obtain ⟨ai, H⟩ := It ai H
         refine fc<|fa<|EF 1 Z<|El (Vi p1.mode) Z (Rb3 Z)<|Ec Z<|fb<|?_
         refine fm Z ?_ ?_
         ·intro aj
          obtain ⟨aj, H⟩ := It aj H
          refine fc<|fa<|El (sv b) Z (Rb4 Z)<|Ea Z<|Ea Z<|fb<|fx<|?_
          obtain ⟨x, y⟩ := ic H
          subst g h
          refine ⟨(.inl Z), [(sv b), (.bool true)], ⟨(sv b), _, Z, Z, ⟨(.bool true), _, Z, Z, Z⟩⟩, ?_⟩
          exact Re0<|Re0<|Re0<|Re0<|Re0<|Sd<|⟨b, Z, Z, s⟩
         ·intro aj
          obtain ⟨aj, H⟩ := If aj H
          exact ft<|Re0<|Re0<|Re0<|Re0<|Re0<|Sd<|⟨[], trivial, Z, Z, H⟩
        ·intro ai
         obtain ⟨ai, H⟩ := If ai H
         refine fc<|fa<|EF 4 Z<|El (Vi p2.number) Z (Rb2 Z)<|Eq Z (fG (cs := (ff (Result.mk 7 (-1) 0 false p2.number))) Z Z Z Z Z Z)<|Eq Z (jx Z Z (fun w => Result.eqrun p2 (Result.mk 7 (-1) 0 false p2.number) w) (by kernel_rfl))<|Ea Z<|fb<|?_
         refine fm Z ?_ ?_
         ·intro ak
          obtain ⟨ak, H⟩ := It ak H
          refine fc<|fa<|El (sv b) Z (Rb4 Z)<|EF 2 Z<|El (Vi p1.channel) Z (Rb3 Z)<|?_
          obtain ⟨M, bX, bP, H⟩ := iw H
          refine fe Z (Ek Tryz.call92 Z (l9 p0 b p1.channel M bX bP _ _ s) ?_)
          rintro _ _ _ - ⟨bb, rfl, rfl, rfl, bG⟩
          refine Em Z<|Ex Z<|Ex Z<|?_
          refine fe Z (fD (cs := (fy (fL.mk 0 [] false) fB)) Z Z Z Z (fun b6 => ?_))
          refine fe Z (Sa (fy M bb) Z .here Z ?_)
          refine Ea Z<|fb<|?_
          refine fz (fun m i f => ∃ (aT : Bool), [(3, (Vp j)), (241, (.bool aT))] = m ∧ K = i ∧ (.blk j 57 [(sv b)]) :: G = f ∧ lD p0 aT = some (g, h)) ?_ ?_
          ·refine fa<|EF 0 Z<|El (Vi p1.kind) Z (Rb4 Z)<|Ec Z<|Em Z<|?_
           refine Ee Z ?_ ?_
           ·intro al
            obtain ⟨al, H⟩ := It al H
            refine VF 4 Z<|Vl (Vi p2.number) Z (Rb3 Z)<|VF 1 Z<|Vl (sv bb) Z (Rb0 Z)<|Vq Z (ge (T := Ty.u64) bG Z Z)<|Vc Z<|Et Z<|Em Z<|?_
            refine Ee Z ?_ ?_
            ·intro am
             obtain ⟨am, H⟩ := It am H
             exact Ez Z<|Ez Z<|Ez Z<|Ez Z<|ga Z Z Z Z rfl<|ga Z Z Z Z rfl<|ga Z Z Z Z rfl<|ga Z Z Z Z rfl<|ga Z Z Z Z rfl<|Ez Z<|Et Z<|fb<|Pu5<|Re1<|Re1<|Re1<|Re1<|Re1<|Sd<|⟨_, by exact R2, true, Z, Z, Z, H⟩
            ·intro am
             obtain ⟨am, H⟩ := If am H
             refine VF 0 Z<|Vl (Vi p1.kind) Z (Rb4 Z)<|Vc Z<|Vm Z<|?_
             refine Ee Z ?_ ?_
             ·intro an
              obtain ⟨an, H⟩ := It an H
              exact VF 4 Z<|Vl (Vi p2.number) Z (Rb3 Z)<|VF 0 Z<|Vl (Vi M.capacity) Z (Rb0 Z)<|Vc Z<|Vt Z<|Ef Z<|fb<|Pu5<|Re1<|Re1<|Re1<|Re1<|Re1<|Sd<|⟨_, by exact R2, (dcd (p2.number = M.capacity)), Z, Z, Z, H⟩
             ·intro an
              obtain ⟨an, H⟩ := If an H
              exact Ez Z<|Ez Z<|Ez Z<|Ez Z<|Ez Z<|Vf Z<|Ef Z<|fb<|Pu5<|Re1<|Re1<|Re1<|Re1<|Re1<|Sd<|⟨_, by exact R2, false, Z, Z, Z, H⟩
           ·intro al
            obtain ⟨al, H⟩ := If al H
            refine Ez Z<|Ez Z<|Ez Z<|Ez Z<|Ez Z<|Ez Z<|Ef Z<|Em Z<|VF 0 Z<|Vl (Vi p1.kind) Z (Rb4 Z)<|Vc Z<|Vm Z<|?_
            refine Ee Z ?_ ?_
            ·intro ao
             obtain ⟨ao, H⟩ := It ao H
             exact VF 4 Z<|Vl (Vi p2.number) Z (Rb3 Z)<|VF 0 Z<|Vl (Vi M.capacity) Z (Rb0 Z)<|Vc Z<|Vt Z<|Ef Z<|fb<|Pu5<|Re1<|Re1<|Re1<|Re1<|Re1<|Sd<|⟨_, by exact R2, (dcd (p2.number = M.capacity)), Z, Z, Z, H⟩
            ·intro ao
             obtain ⟨ao, H⟩ := If ao H
             exact Ez Z<|Ez Z<|Ez Z<|Ez Z<|Ez Z<|Vf Z<|Ef Z<|fb<|Pu5<|Re1<|Re1<|Re1<|Re1<|Re1<|Sd<|⟨_, by exact R2, false, Z, Z, Z, H⟩
          rintro _ _ _ - ⟨aT, rfl, rfl, rfl, H⟩
          unfold lD at H
          refine fm Z ?_ ?_
          ·intro aJ
           have H := ift aJ H
           refine fc<|fa<|El (sv b) Z (Rb0 Z)<|Ea Z<|Ea Z<|fb<|fx<|?_
           obtain ⟨x, y⟩ := ic H
           subst g h
           refine ⟨(.inl Z), [(sv b), (.bool true)], ⟨(sv b), _, Z, Z, ⟨(.bool true), _, Z, Z, Z⟩⟩, ?_⟩
           exact Re0<|Sd<|⟨b, Z, Z, s⟩
          ·intro aJ
           have H := f0 (btf aJ) H
           exact ft<|Re0<|Sd<|⟨[], trivial, Z, Z, H⟩
         ·intro ak
          obtain ⟨ak, H⟩ := If ak H
          exact ft<|Re0<|Re0<|Re0<|Re0<|Re0<|Sd<|⟨[], trivial, Z, Z, H⟩
 rintro _ b5 _ cb ⟨rfl, rfl, H⟩
 unfold iW at H
 refine fc<|fa<|Ea Z<|Ea Z<|fb<|fx<|?_
 obtain ⟨x, y⟩ := ic H
 subst g h
 refine ⟨(.inl Z), [(sv fB), (.bool false)], ⟨(sv fB), _, Z, Z, ⟨(.bool false), _, Z, Z, Z⟩⟩, ?_⟩
 exact Sd ⟨fB, Z, Z, (Slr.nil fH _)⟩
end Go.Hx
