
import Derived.Test.YtphoeijgpmlbpaaGreatDoorXZM
import Derived.Test.YtphoeijgpmlbpaaGreatDoorXZShelf
set_option linter.unusedVariables false
set_option linter.unusedSimpArgs false
namespace Go.Hx
open Go Go.Proofs
set_option maxRecDepth 10000
set_option maxHeartbeats 1000000
theorem BQ (p0 : ad1) (g : SV) (p1 : Int) (e : fg) (H : qL p0 p1 = some e) (K : Kp) (G : List Ent) (f : Slr Ty.u8 K (sv g) p0) :
  Fc Tryz.prog 18 #[(sv g), (Vi p1)] K (G) (fun v b h => ∃ (j : Nat) (l : SV), v = (Vp j) ∧ K = b ∧ (.blk j 99 (fE e l)) :: G = h ∧ Slr Ty.u8 b (sv l) e.list) := by
 refine fO Tryz.func18 rfl Tryz.ntmps18 Tryz.results18 rfl ?_
 unfold qL at H
 refine fc<|fa<|Ea Z<|fb<|?_
 refine fz (fun m b h => ∃ (a : SV) (d : ad1), [(0, (sv a))] = m ∧ K = b ∧ G = h ∧ vf d = some e ∧ Slr Ty.u8 b (sv a) d) ?_ ?_
 ·refine fc<|fa<|Em Z<|Eq Z (ge (T := Ty.u8) f rfl rfl)<|Em Z<|Ec Z<|fb<|?_
  refine fm rfl ?_ ?_
  ·intro c
   obtain ⟨c, H⟩ := It c H
   refine fa<|Em Z<|Em Z<|?_
   obtain ⟨x17, k, H⟩ := bnd H
   have o := Slr.cut f k
   exact Eq Z (sG (T := Ty.u8) f k rfl rfl rfl rfl)<|Ea Z<|fb<|Sd<|⟨_, by exact R1, (jo g 1 0 p1.toNat), x17, rfl, rfl, rfl, H, o⟩
  ·intro c
   obtain ⟨c, H⟩ := If c H
   exact ft<|Sd<|⟨_, by exact R1, g, p0, rfl, rfl, rfl, H, f⟩
 rintro _ _ _ - ⟨a, d, rfl, rfl, rfl, H, n⟩
 unfold vf at H
 refine fc<|fa<|Em Z<|Eq Z (fF (cs := (fE (fg.mk d 0 0) a)) rfl rfl rfl rfl rfl rfl)<|?_
 refine ff rfl (fU (cs := (fE (fg.mk d 0 0) a)) rfl rfl rfl (fun i => ?_))
 refine Ea Z<|fb<|fy<|?_
 obtain p := gm H
 subst e
 refine ⟨(.inl rfl), [(Vp i)], ⟨(Vp i), _, rfl, rfl, rfl⟩, ?_⟩
 exact Sd ⟨i, a, rfl, rfl, rfl, n⟩
theorem sP (b : Nat) (p0 : fg) (a : SV) (c : Bool) (H : nO p0 = some c) (K : Kp) (G : List Ent) (f : Slr Ty.u8 K (sv a) p0.list) :
  Fc Tryz.prog 22 #[(Vp b)] K ((.blk b 99 (fE p0 a)) :: G) (fun v e d => v = (.bool c) ∧ K = e ∧ (.blk b 99 (fE p0 a)) :: G = d) := by
 refine fO Tryz.func22 rfl Tryz.ntmps22 Tryz.results22 rfl ?_
 unfold nO at H
 refine fc<|fa<|Ea Z<|fb<|fc<|fq _ rfl (Ic Mb0 In0)<|Jm 0 Z<|Jq 1 Z (fD rfl)<|JF 2 1 Z<|Jl 3 (Vi p0.at_) Z (Rb0 Z)<|Jm 4 Z<|Jq 5 Z (fD rfl)<|JF 6 0 Z<|Jl 7 (sv a) Z (Rb0 Z)<|Jq 8 Z (ge (T := Ty.u8) f rfl rfl)<|Jc 9 Z<|Ja 10 Z<|Ad<|fy<|?_
 obtain g := gm H
 subst c
 refine ⟨(.inl rfl), [(.bool (dcd (p0.at_ < (p0.list.length : Int))))], ⟨(.bool (dcd (p0.at_ < (p0.list.length : Int)))), _, rfl, rfl, rfl⟩, ?_⟩
 exact Sd ⟨rfl, rfl, rfl⟩
theorem i6 (d : Nat) (p0 : fg) (b : SV) (p1 : Int) (e : Int) (f : Int) (H : kU p0 p1 = some (e, f)) (K : Kp) (G : List Ent) (g : Slr Ty.u8 K (sv b) p0.list) :
  Fc Tryz.prog 23 #[(Vp d), (Vi p1)] K ((.blk d 99 (fE p0 b)) :: G) (fun v m l => v = (Vi e) ∧ K = m ∧ (.blk d 99 (fE (fg.mk p0.list f p0.value) b)) :: G = l) := by
 refine fO Tryz.func23 rfl Tryz.ntmps23 Tryz.results23 rfl ?_
 unfold kU at H
 refine fc<|fa<|Ea Z<|fb<|fc<|fc<|fa<|Em Z<|?_
 obtain ⟨x17, q, H⟩ := bnd H
 refine ff rfl (Ek Tryz.call22 Z (sP d p0 b x17 q _ _ g) ?_)
 rintro _ _ _ - ⟨rfl, rfl, rfl⟩
 refine Eq Z (gd rfl)<|fb<|?_
 refine fm rfl ?_ ?_
 ·intro a
  have a := ir a
  have H := f0 (btf a) H
  refine fc<|fa<|Ea Z<|fb<|fy<|?_
  obtain ⟨n, o⟩ := hX H
  subst e f
  refine ⟨(.inl rfl), [(Vi 0)], ⟨(Vi 0), _, rfl, rfl, rfl⟩, ?_⟩
  exact Sd ⟨rfl, rfl, rfl⟩
 ·intro a
  have a := iq a
  have H := ift a H
  refine ft<|fc<|fa<|Em Z<|Eq Z (fD rfl)<|EF 1 Z<|El (Vi p0.at_) Z (Rb0 Z)<|Er (wI (p0.at_ + 1)) Z<|Eq Z (fD rfl)<|EF 1 Z<|?_
  refine ff rfl (So [(Vi (wI (p0.at_ + 1)))] (fE (fg.mk p0.list (wI (p0.at_ + 1)) p0.value) b) Z .here Z ?_)
  refine fb<|fc<|?_
  obtain ⟨i, h, H⟩ := bnd H
  obtain ⟨j, r, H⟩ := bnd H
  refine fq _ rfl (Ic Mb0 In0)<|Jm 0 Z<|Jq 1 Z (fD rfl)<|JF 2 0 Z<|Jl 3 (sv b) Z (Rb0 Z)<|Jm 4 Z<|Jq 5 Z (fD rfl)<|JF 6 1 Z<|Jl 7 (Vi (wI (p0.at_ + 1))) Z (Rb0 Z)<|Jr 8 (wI ((wI (p0.at_ + 1)) - 1)) Z<|?_
  obtain ⟨_, rfl, p⟩ := Slr.at g h
  refine Jq 9 Z (Qi (T := Ty.u8) g h Z)<|Jl 10 (.int .u8 i) Z (Rdc.k p rfl)<|Jq 11 Z (mX (c := wI i) rfl rfl rfl rfl)<|Jm 12 Z<|Jq 13 Z (Bg r rfl rfl)<|Ja 14 Z<|Ad<|fy<|?_
  obtain ⟨n, o⟩ := hX H
  subst e f
  refine ⟨(.inl rfl), [(Vi j)], ⟨(Vi j), _, rfl, rfl, rfl⟩, ?_⟩
  exact Sd ⟨rfl, rfl, rfl⟩
theorem DR (a : Nat) (p0 : fg) (h : SV) (w : fP) (D : Int) (E : Int) (H : r4 p0 = some (w, D, E)) (K : Kp) (G : List Ent) (aH : Slr Ty.u8 K (sv h) p0.list) :
  Fc Tryz.prog 19 #[(Vp a)] K ((.blk a 99 (fE p0 h)) :: G) (fun v f s => ∃ (az : SV) (aA : SV), v = (.agg (fp w az aA).toArray) ∧ (.blk a 99 (fE (fg.mk p0.list D E) h)) :: (.tok 3 1 [(sv az)]) :: (.tok 36 1 [(sv aA)]) :: G = s ∧ Slr Ty.i64 f (sv az) w.capacities ∧ Slr Ty.u64 f (sv aA) w.starts) := by
 refine fO Tryz.func19 rfl Tryz.ntmps19 Tryz.results19 rfl ?_
 unfold r4 at H
 refine fc<|fa<|?_
 refine ff rfl (fC (cs := (fp (fP.mk [] [] 0) fA fA)) rfl rfl rfl rfl (fun x => ?_))
 refine fb<|fc<|fa<|?_
 have ai : RowR Ty.i64 K [[(Vi 0)], [(Vi 1)], [(Vi 2)], [(Vi 0)], [(Vi 1)], [(Vi 3)]] [0, 1, 2, 0, 1, 3] := RowR.cons rfl (RowR.cons rfl (RowR.cons rfl (RowR.cons rfl (RowR.cons rfl (RowR.cons rfl (RowR.nil))))))
 refine ff rfl (gg (T := Ty.i64) (rows := [[(Vi 0)], [(Vi 1)], [(Vi 2)], [(Vi 0)], [(Vi 1)], [(Vi 3)]]) (l := [0, 1, 2, 0, 1, 3]) rfl rfl rfl ai rfl rfl rfl rfl rfl rfl rfl rfl (fun F => ?_))
 refine Ea Z<|fb<|fc<|fa<|?_
 have aj : RowR Ty.u64 K [[(.int .u64 0)], [(.int .u64 1)], [(.int .u64 9223372036854775807)], [(.int .u64 9223372036854775806)], [(.int .u64 4611686018427387904)], [(.int .u64 5)]] [0, 1, 9223372036854775807, 9223372036854775806, 4611686018427387904, 5] := RowR.cons rfl (RowR.cons rfl (RowR.cons rfl (RowR.cons rfl (RowR.cons rfl (RowR.cons rfl (RowR.nil))))))
 refine ff rfl (gg (T := Ty.u64) (rows := [[(.int .u64 0)], [(.int .u64 1)], [(.int .u64 9223372036854775807)], [(.int .u64 9223372036854775806)], [(.int .u64 4611686018427387904)], [(.int .u64 5)]]) (l := [0, 1, 9223372036854775807, 9223372036854775806, 4611686018427387904, 5]) rfl rfl rfl aj rfl rfl rfl rfl rfl rfl rfl rfl (fun I => ?_))
 refine Ea Z<|fb<|fc<|fa<|?_
 refine ff rfl (fC (cs := (fp (fP.mk [] [] 0) fA fA)) rfl rfl rfl rfl (fun y => ?_))
 refine fb ?_
 refine fz (fun B f s => ∃ (ac : Int) (ad : Int) (i : SV) (m : ad1) (j : SV) (n : ad1), [(0, (Vp a)), (2, (Vp x)), (5, (Vp y))] = B ∧ (.blk a 99 (fE (fg.mk p0.list ac ad) h)) :: (.blk y 27 (fp (fP.mk m n 0) i j)) :: (.blk x 27 (fp (fP.mk [] [] 0) fA fA)) :: (.tok 3 1 [(sv i)]) :: (.tok 36 1 [(sv j)]) :: G = s ∧ qM p0 ac ad m n = some (w, D, E) ∧ Slr Ty.i64 f (sv i) m ∧ Slr Ty.u64 f (sv j) n) ?_ ?_
 ·refine fc<|fa<|Ea Z<|fb<|fB<|?_
  refine f8 (fun aP B f s => ∃ (t : Int) (b : Int) (c : Int) (A : SV) (P : ad1) (g : SV) (o : ad1), [(0, (Vp a)), (2, (Vp x)), (3, (sv F)), (4, (sv I)), (5, (Vp y)), (6, (Vi t))] = B ∧ (.blk a 99 (fE (fg.mk p0.list b c) h)) :: (.blk y 27 (fp (fP.mk P o 0) A g)) :: (.blk x 27 (fp (fP.mk [] [] 0) fA fA)) :: (.tok 3 1 [(sv A)]) :: (.tok 36 1 [(sv g)]) :: (.row (sv I) 36 1 [[(.int .u64 0)], [(.int .u64 1)], [(.int .u64 9223372036854775807)], [(.int .u64 9223372036854775806)], [(.int .u64 4611686018427387904)], [(.int .u64 5)]].flatten) :: (.row (sv F) 3 1 [[(Vi 0)], [(Vi 1)], [(Vi 2)], [(Vi 0)], [(Vi 1)], [(Vi 3)]].flatten) :: G = s ∧ lp5 (qP p0) aP t b c P o = some (w, D, E) ∧ Slr Ty.i64 f (sv A) P ∧ Slr Ty.u64 f (sv g) o) BIG ?_ ?_
  ·exact Shift.nilTok1 3 1<|Shift.nilTok1 36 1<|Pu4<|Pu4<|Pu2<|Pu3<|Pu5<|Pu5<|Pu6<|Sd<|⟨_, by exact R6, 0, p0.at_, p0.value, fA, ([] : ad1), fA, ([] : ad1), rfl, rfl, H, (Slr.nil Ty.i64 _), (Slr.nil Ty.u64 _)⟩
  rintro aP _ ag _ N ⟨t, b, c, A, P, g, o, rfl, rfl, H, X, Y⟩
  obtain ⟨bE, aO, rfl, aW, H⟩ := D4 H
  unfold qP at H
  refine fc<|fc<|fa<|Em Z<|Em Z<|?_
  obtain ⟨bn, k, bl, H⟩ := ix H
  have O := aH.mono N
  refine ff rfl (Ek Tryz.call23 Z (i6 a (fg.mk p0.list b c) h 3 bn k bl _ _ O) ?_)
  rintro _ _ _ - ⟨rfl, rfl, rfl⟩
  refine Ec Z<|fb<|?_
  refine fm rfl ?_ ?_
  ·intro M
   obtain ⟨M, H⟩ := It M H
   refine ft ?_
   refine fz (fun B f s => ∃ (ae : Int) (af : Int) (S : SV) (Q : ad1) (U : SV) (R : ad1), [(0, (Vp a)), (2, (Vp x)), (3, (sv F)), (4, (sv I)), (5, (Vp y)), (6, (Vi t))] = B ∧ (.blk a 99 (fE (fg.mk p0.list ae af) h)) :: (.blk y 27 (fp (fP.mk Q R 0) S U)) :: (.blk x 27 (fp (fP.mk [] [] 0) fA fA)) :: (.tok 3 1 [(sv S)]) :: (.tok 36 1 [(sv U)]) :: (.row (sv I) 36 1 [[(.int .u64 0)], [(.int .u64 1)], [(.int .u64 9223372036854775807)], [(.int .u64 9223372036854775806)], [(.int .u64 4611686018427387904)], [(.int .u64 5)]].flatten) :: (.row (sv F) 3 1 [[(Vi 0)], [(Vi 1)], [(Vi 2)], [(Vi 0)], [(Vi 1)], [(Vi 3)]].flatten) :: G = s ∧ qN t p0 aO ae af Q R = some (w, D, E) ∧ Slr Ty.i64 f (sv S) Q ∧ Slr Ty.u64 f (sv U) R) ?_ ?_
   ·refine fB ?_
    refine fz (fun B f s => ∃ (z : Int) (r : SV) (p : ad1), [(0, (Vp a)), (2, (Vp x)), (3, (sv F)), (4, (sv I)), (5, (Vp y)), (6, (Vi t))] = B ∧ (.blk a 99 (fE (fg.mk p0.list z ((fg.mk p0.list k ((fg.mk p0.list b c).value)).value)) h)) :: (.blk y 27 (fp (fP.mk p o 0) r g)) :: (.blk x 27 (fp (fP.mk [] [] 0) fA fA)) :: (.tok 3 1 [(sv r)]) :: (.tok 36 1 [(sv g)]) :: (.row (sv I) 36 1 [[(.int .u64 0)], [(.int .u64 1)], [(.int .u64 9223372036854775807)], [(.int .u64 9223372036854775806)], [(.int .u64 4611686018427387904)], [(.int .u64 5)]].flatten) :: (.row (sv F) 3 1 [[(Vi 0)], [(Vi 1)], [(Vi 2)], [(Vi 0)], [(Vi 1)], [(Vi 3)]].flatten) :: G = s ∧ qO t p0 k b c o aO z p = some (w, D, E) ∧ Slr Ty.i64 f (sv r) p) ?_ ?_
    ·obtain ⟨aR, W, aN, H⟩ := ix H
     obtain ⟨e, ab, H⟩ := bnd H
     obtain ⟨L, aq, H⟩ := bnd H
     refine fq _ rfl (Ic Mb2 (Ic Mb4 (Ic Mb5 (Ic Mb6 In0))))<|JF 0 0 Z<|Jm 2 Z<|Jm 3 Z<|?_
     refine gU 1 4 (by kernel_rfl) ?_ ?_
     ·refine id (Jyq Z (gn (v := (sv A)) rfl rfl rfl (Rb1 Z)) ⟨(Ic Mb2 (Ic Mb4 (Ic Mb5 (Ic Mb6 In0)))), ?_⟩)
      refine Ao 4 Z ?_
      refine Ek Tryz.call23 Z (i6 a (fg.mk p0.list k ((fg.mk p0.list b c).value)) h 6 aR W aN _ _ O) ?_
      rintro _ _ _ - ⟨rfl, rfl, rfl⟩
      refine ⟨(Ic Mb2 (Ic Mb4 (Ic Mb5 (Ic Mb6 In0)))), ?_⟩
      have an := ai.mono N
      obtain ⟨bH, aK, aZ⟩ := RowR.at an ab
      obtain rfl := aZ
      refine Jq 5 Z (gy (T := Ty.i64) Mb3 an aK (fK ab).1 rfl rfl rfl rfl rfl)<|Jl 6 (Vi e) Z (gP (T := Ty.i64) Mb3 an aK rfl rfl)<|?_
      refine Ao 7 Z ?_
      have aE : RowR Ty.i64 ag [[(Vi e)]] [e] := RowR.cons rfl (RowR.nil)
      refine gg (T := Ty.i64) (rows := [[(Vi e)]]) (l := [e]) rfl rfl rfl aE rfl rfl rfl rfl rfl rfl rfl rfl (fun bM => ⟨(Ic Mb3 (Ic Mb5 (Ic Mb6 (Ic Mb7 In0)))), ?_⟩)
      refine Ao 8 Z ?_
      refine f7 (T := Ty.i64) (bytes := 8) (q := 0) rfl rfl rfl X Mb4 rfl (SrcT.row Mb0 aE rfl) aq rfl rfl rfl rfl rfl rfl rfl rfl (fun aw bt bB bh => ⟨_, (.there (.there (.there (.there .here)))), ⟨(Ic Mb3 (Ic Mb5 (Ic Mb6 (Ic Mb7 In0)))), ?_⟩⟩)
      refine Aw.shift (Re0 (Sd ⟨(Ic Mb2 (Ic Mb4 (Ic Mb5 (Ic Mb6 In0)))), ?_⟩))
      refine JF 9 0 Z ?_
      refine Ao 10 Z ?_
      refine So [(sv aw)] (fp (fP.mk L o 0) aw g) Z (.there .here) Z ⟨(Ic Mb2 (Ic Mb4 (Ic Mb5 (Ic Mb6 In0)))), ?_⟩
      exact Ad<|Pu6<|Pu6<|Pu6<|Pu6<|Pu6<|Pu6<|Pu6<|Sd<|⟨_, by exact R6, W, aw, L, rfl, rfl, H, bh⟩
     ·refine id (Jy Z ?_)
      refine Ek Tryz.call23 Z (i6 a (fg.mk p0.list k ((fg.mk p0.list b c).value)) h 6 aR W aN _ _ O) ?_
      rintro _ _ _ - ⟨rfl, rfl, rfl⟩
      refine ⟨(Ic Mb2 (Ic Mb4 (Ic Mb5 (Ic Mb6 In0)))), ?_⟩
      have ao := ai.mono N
      obtain ⟨bI, aL, a0⟩ := RowR.at ao ab
      obtain rfl := a0
      refine Jq 5 Z (gy (T := Ty.i64) Mb3 ao aL (fK ab).1 rfl rfl rfl rfl rfl)<|Jl 6 (Vi e) Z (gP (T := Ty.i64) Mb3 ao aL rfl rfl)<|?_
      refine gU 1 7 (by kernel_rfl) ?_ ?_
      ·refine id (Jyq Z (gn (v := (sv A)) rfl rfl rfl (Rb1 Z)) ⟨(Ic Mb2 (Ic Mb4 (Ic Mb5 (Ic Mb6 In0)))), ?_⟩)
       refine Ao 7 Z ?_
       have aF : RowR Ty.i64 ag [[(Vi e)]] [e] := RowR.cons rfl (RowR.nil)
       refine gg (T := Ty.i64) (rows := [[(Vi e)]]) (l := [e]) rfl rfl rfl aF rfl rfl rfl rfl rfl rfl rfl rfl (fun bN => ⟨(Ic Mb3 (Ic Mb5 (Ic Mb6 (Ic Mb7 In0)))), ?_⟩)
       refine Ao 8 Z ?_
       refine f7 (T := Ty.i64) (bytes := 8) (q := 0) rfl rfl rfl X Mb4 rfl (SrcT.row Mb0 aF rfl) aq rfl rfl rfl rfl rfl rfl rfl rfl (fun ax bu bC bi => ⟨_, (.there (.there (.there (.there .here)))), ⟨(Ic Mb3 (Ic Mb5 (Ic Mb6 (Ic Mb7 In0)))), ?_⟩⟩)
       refine Aw.shift (Re0 (Sd ⟨(Ic Mb2 (Ic Mb4 (Ic Mb5 (Ic Mb6 In0)))), ?_⟩))
       refine JF 9 0 Z ?_
       refine Ao 10 Z ?_
       refine So [(sv ax)] (fp (fP.mk L o 0) ax g) Z (.there .here) Z ⟨(Ic Mb2 (Ic Mb4 (Ic Mb5 (Ic Mb6 In0)))), ?_⟩
       exact Ad<|Pu6<|Pu6<|Pu6<|Pu6<|Pu6<|Pu6<|Pu6<|Sd<|⟨_, by exact R6, W, ax, L, rfl, rfl, H, bi⟩
      ·refine id (Jy Z ?_)
       have aG : RowR Ty.i64 ag [[(Vi e)]] [e] := RowR.cons rfl (RowR.nil)
       refine gg (T := Ty.i64) (rows := [[(Vi e)]]) (l := [e]) rfl rfl rfl aG rfl rfl rfl rfl rfl rfl rfl rfl (fun bO => ⟨(Ic Mb3 (Ic Mb5 (Ic Mb6 (Ic Mb7 In0)))), ?_⟩)
       refine gx 1 (by kernel_rfl) (Jyq Z (gn (v := (sv A)) rfl rfl rfl (Rb2 Z)) ⟨(Ic Mb3 (Ic Mb5 (Ic Mb6 (Ic Mb7 In0)))), ?_⟩)
       refine Ao 8 Z ?_
       refine f7 (T := Ty.i64) (bytes := 8) (q := 0) rfl rfl rfl X Mb4 rfl (SrcT.row Mb0 aG rfl) aq rfl rfl rfl rfl rfl rfl rfl rfl (fun ay bv bD bj => ⟨_, (.there (.there (.there (.there .here)))), ⟨(Ic Mb3 (Ic Mb5 (Ic Mb6 (Ic Mb7 In0)))), ?_⟩⟩)
       refine Aw.shift (Re0 (Sd ⟨(Ic Mb2 (Ic Mb4 (Ic Mb5 (Ic Mb6 In0)))), ?_⟩))
       refine JF 9 0 Z ?_
       refine Ao 10 Z ?_
       refine So [(sv ay)] (fp (fP.mk L o 0) ay g) Z (.there .here) Z ⟨(Ic Mb2 (Ic Mb4 (Ic Mb5 (Ic Mb6 In0)))), ?_⟩
       exact Ad<|Pu6<|Pu6<|Pu6<|Pu6<|Pu6<|Pu6<|Pu6<|Sd<|⟨_, by exact R6, W, ay, L, rfl, rfl, H, bj⟩
    rintro _ ah _ C ⟨z, r, p, rfl, rfl, H, am⟩
    unfold qO at H
    obtain ⟨aQ, V, aM, H⟩ := ix H
    obtain ⟨d, aa, H⟩ := bnd H
    obtain ⟨J, ap, H⟩ := bnd H
    refine fq _ rfl (Ic Mb2 (Ic Mb3 (Ic Mb5 (Ic Mb6 In0))))<|JF 0 1 Z<|Jm 2 Z<|Jm 3 Z<|?_
    refine gU 1 4 (by kernel_rfl) ?_ ?_
    ·refine id (Jyq Z (gn (v := (sv g)) rfl rfl rfl (Rb1 Z)) ⟨(Ic Mb2 (Ic Mb3 (Ic Mb5 (Ic Mb6 In0)))), ?_⟩)
     refine Ao 4 Z ?_
     have a1 := O.mono C
     refine Ek Tryz.call23 Z (i6 a (fg.mk p0.list z ((fg.mk p0.list k ((fg.mk p0.list b c).value)).value)) h 6 aQ V aM _ _ a1) ?_
     rintro _ _ _ - ⟨rfl, rfl, rfl⟩
     refine ⟨(Ic Mb2 (Ic Mb3 (Ic Mb5 (Ic Mb6 In0)))), ?_⟩
     have ak := (aj.mono N).mono C
     obtain ⟨bF, aI, aX⟩ := RowR.at ak aa
     obtain rfl := aX
     refine Jq 5 Z (gy (T := Ty.u64) Mb2 ak aI (fK aa).1 rfl rfl rfl rfl rfl)<|Jl 6 (.int .u64 d) Z (gP (T := Ty.u64) Mb2 ak aI rfl rfl)<|?_
     refine Ao 7 Z ?_
     have aB : RowR Ty.u64 ah [[(.int .u64 d)]] [d] := RowR.cons rfl (RowR.nil)
     refine gg (T := Ty.u64) (rows := [[(.int .u64 d)]]) (l := [d]) rfl rfl rfl aB rfl rfl rfl rfl rfl rfl rfl rfl (fun bJ => ⟨(Ic Mb3 (Ic Mb4 (Ic Mb6 (Ic Mb7 In0)))), ?_⟩)
     refine Ao 8 Z ?_
     have a3 := Y.mono C
     refine f7 (T := Ty.u64) (bytes := 8) (q := 0) rfl rfl rfl a3 Mb5 rfl (SrcT.row Mb0 aB rfl) ap rfl rfl rfl rfl rfl rfl rfl rfl (fun ar bo aS a2 => ⟨_, (.there (.there (.there (.there (.there .here))))), ⟨(Ic Mb3 (Ic Mb4 (Ic Mb6 (Ic Mb7 In0)))), ?_⟩⟩)
     refine Aw.shift (Re0 (Sd ⟨(Ic Mb2 (Ic Mb3 (Ic Mb5 (Ic Mb6 In0)))), ?_⟩))
     refine JF 9 1 Z ?_
     refine Ao 10 Z ?_
     refine So [(sv ar)] (fp (fP.mk p J 0) r ar) Z (.there .here) Z ⟨(Ic Mb2 (Ic Mb3 (Ic Mb5 (Ic Mb6 In0)))), ?_⟩
     refine Ad<|Pu6<|Pu6<|Pu6<|Pu6<|Pu6<|Pu6<|Pu6<|?_
     have a4 := am.mono aS
     exact Sd ⟨_, by exact R6, V, ((fg.mk p0.list z ((fg.mk p0.list k ((fg.mk p0.list b c).value)).value)).value), r, p, ar, J, rfl, rfl, H, a4, a2⟩
    ·refine id (Jy Z ?_)
     have a5 := O.mono C
     refine Ek Tryz.call23 Z (i6 a (fg.mk p0.list z ((fg.mk p0.list k ((fg.mk p0.list b c).value)).value)) h 6 aQ V aM _ _ a5) ?_
     rintro _ _ _ - ⟨rfl, rfl, rfl⟩
     refine ⟨(Ic Mb2 (Ic Mb3 (Ic Mb5 (Ic Mb6 In0)))), ?_⟩
     have al := (aj.mono N).mono C
     obtain ⟨bG, aJ, aY⟩ := RowR.at al aa
     obtain rfl := aY
     refine Jq 5 Z (gy (T := Ty.u64) Mb2 al aJ (fK aa).1 rfl rfl rfl rfl rfl)<|Jl 6 (.int .u64 d) Z (gP (T := Ty.u64) Mb2 al aJ rfl rfl)<|?_
     refine gU 1 7 (by kernel_rfl) ?_ ?_
     ·refine id (Jyq Z (gn (v := (sv g)) rfl rfl rfl (Rb1 Z)) ⟨(Ic Mb2 (Ic Mb3 (Ic Mb5 (Ic Mb6 In0)))), ?_⟩)
      refine Ao 7 Z ?_
      have aC : RowR Ty.u64 ah [[(.int .u64 d)]] [d] := RowR.cons rfl (RowR.nil)
      refine gg (T := Ty.u64) (rows := [[(.int .u64 d)]]) (l := [d]) rfl rfl rfl aC rfl rfl rfl rfl rfl rfl rfl rfl (fun bK => ⟨(Ic Mb3 (Ic Mb4 (Ic Mb6 (Ic Mb7 In0)))), ?_⟩)
      refine Ao 8 Z ?_
      have a7 := Y.mono C
      refine f7 (T := Ty.u64) (bytes := 8) (q := 0) rfl rfl rfl a7 Mb5 rfl (SrcT.row Mb0 aC rfl) ap rfl rfl rfl rfl rfl rfl rfl rfl (fun au bp aT a6 => ⟨_, (.there (.there (.there (.there (.there .here))))), ⟨(Ic Mb3 (Ic Mb4 (Ic Mb6 (Ic Mb7 In0)))), ?_⟩⟩)
      refine Aw.shift (Re0 (Sd ⟨(Ic Mb2 (Ic Mb3 (Ic Mb5 (Ic Mb6 In0)))), ?_⟩))
      refine JF 9 1 Z ?_
      refine Ao 10 Z ?_
      refine So [(sv au)] (fp (fP.mk p J 0) r au) Z (.there .here) Z ⟨(Ic Mb2 (Ic Mb3 (Ic Mb5 (Ic Mb6 In0)))), ?_⟩
      refine Ad<|Pu6<|Pu6<|Pu6<|Pu6<|Pu6<|Pu6<|Pu6<|?_
      have a8 := am.mono aT
      exact Sd ⟨_, by exact R6, V, ((fg.mk p0.list z ((fg.mk p0.list k ((fg.mk p0.list b c).value)).value)).value), r, p, au, J, rfl, rfl, H, a8, a6⟩
     ·refine id (Jy Z ?_)
      have aD : RowR Ty.u64 ah [[(.int .u64 d)]] [d] := RowR.cons rfl (RowR.nil)
      refine gg (T := Ty.u64) (rows := [[(.int .u64 d)]]) (l := [d]) rfl rfl rfl aD rfl rfl rfl rfl rfl rfl rfl rfl (fun bL => ⟨(Ic Mb3 (Ic Mb4 (Ic Mb6 (Ic Mb7 In0)))), ?_⟩)
      refine gx 1 (by kernel_rfl) (Jyq Z (gn (v := (sv g)) rfl rfl rfl (Rb2 Z)) ⟨(Ic Mb3 (Ic Mb4 (Ic Mb6 (Ic Mb7 In0)))), ?_⟩)
      refine Ao 8 Z ?_
      have ba := Y.mono C
      refine f7 (T := Ty.u64) (bytes := 8) (q := 0) rfl rfl rfl ba Mb5 rfl (SrcT.row Mb0 aD rfl) ap rfl rfl rfl rfl rfl rfl rfl rfl (fun av bq aU a9 => ⟨_, (.there (.there (.there (.there (.there .here))))), ⟨(Ic Mb3 (Ic Mb4 (Ic Mb6 (Ic Mb7 In0)))), ?_⟩⟩)
      refine Aw.shift (Re0 (Sd ⟨(Ic Mb2 (Ic Mb3 (Ic Mb5 (Ic Mb6 In0)))), ?_⟩))
      refine JF 9 1 Z ?_
      refine Ao 10 Z ?_
      refine So [(sv av)] (fp (fP.mk p J 0) r av) Z (.there .here) Z ⟨(Ic Mb2 (Ic Mb3 (Ic Mb5 (Ic Mb6 In0)))), ?_⟩
      refine Ad<|Pu6<|Pu6<|Pu6<|Pu6<|Pu6<|Pu6<|Pu6<|?_
      have bb := am.mono aU
      exact Sd ⟨_, by exact R6, V, ((fg.mk p0.list z ((fg.mk p0.list k ((fg.mk p0.list b c).value)).value)).value), r, p, av, J, rfl, rfl, H, bb, a9⟩
   rintro _ br _ bA ⟨ae, af, S, Q, U, R, rfl, rfl, H, bf, bg⟩
   unfold qN at H
   exact fa<|Em Z<|Er (wI (t + 1)) Z<|Ea Z<|fb<|Pu6<|Pu6<|Pu6<|Pu6<|Pu6<|Pu6<|Pu6<|Sd<|⟨_, by exact R6, _, Nat.lt_succ_self _, (wI (t + 1)), ae, af, S, Q, U, R, rfl, rfl, (aW ▸ H), bf, bg⟩
  ·intro M
   obtain ⟨M, H⟩ := If M H
   exact ga<|Pu4<|Pu4<|Pu4<|Pu4<|Pu4<|Re5<|Re5<|Sd<|⟨_, by exact R3, k, ((fg.mk p0.list b c).value), A, P, g, o, rfl, rfl, H, X, Y⟩
 rintro _ bs _ aV ⟨ac, ad, i, m, j, n, rfl, rfl, H, bd, be⟩
 unfold qM at H
 refine fc<|fa<|Em Z<|?_
 obtain ⟨u, bm, bk, H⟩ := ix H
 have bc := aH.mono aV
 refine ff rfl (Ek Tryz.call23 Z (i6 a (fg.mk p0.list ac ad) h 3 u bm bk _ _ bc) ?_)
 rintro _ _ _ - ⟨rfl, rfl, rfl⟩
 refine Er (wI (2 + u)) Z<|EF 2 Z<|?_
 refine ff rfl (So [(Vi (wI (2 + u)))] (fp (fP.mk m n (wI (2 + u))) i j) Z (.there .here) Z ?_)
 refine fb<|fc<|fa<|EL 3 (fp (fP.mk m n (wI (2 + u))) i j) Z (Rb1 Z)<|?_
 refine ff rfl (Sa (fp (fP.mk m n (wI (2 + u))) i j) Z (.there (.there .here)) Z ?_)
 refine fb<|fy<|?_
 obtain ⟨bw, bx, bz⟩ := jH H
 subst w D E
 refine ⟨(.inl rfl), [(.agg (fp (fP.mk m n (wI (2 + u))) i j).toArray)], ⟨(.agg (fp (fP.mk m n (wI (2 + u))) i j).toArray), _, rfl, ⟨_, 3, (fp (fP.mk m n (wI (2 + u))) i j), rfl, rfl, rfl, rfl, ⟨rfl, Rb2 Z⟩, rfl⟩, rfl⟩, ?_⟩
 exact Pu4<|Pu4<|Pu2<|Re3<|Re3<|Sd<|⟨i, j, rfl, rfl, bd, be⟩
theorem kw (a : Nat) (p0 : fg) (b : SV) (p1 : fP) (e : SV) (k : SV) (f : Int) (g : Int) (h : Int) (H : l7 p0 p1 = some (f, g, h)) (K : Kp) (G : List Ent) (j : Slr Ty.u8 K (sv b) p0.list) (q : Slr Ty.i64 K (sv e) p1.capacities) (B : Slr Ty.u64 K (sv k) p1.starts) :
  Fc Tryz.prog 70 #[(Vp a), (.agg (fp p1 e k).toArray)] K ((.blk a 99 (fE p0 b)) :: G) (fun v s r => v = (Vi f) ∧ K = s ∧ (.blk a 99 (fE (fg.mk p0.list g h) b)) :: G = r) := by
 refine fO Tryz.func70 rfl Tryz.ntmps70 Tryz.results70 rfl ?_
 unfold l7 at H
 refine fc<|fa<|?_
 refine ff rfl (fU (cs := (fp p1 e k)) rfl rfl rfl (fun A => ?_))
 refine Ea Z<|fb<|fc<|fc<|fa<|Em Z<|?_
 obtain ⟨x, l, t, H⟩ := ix H
 refine Ow.shift (Pu1 (Sd ?_))
 refine ff rfl (Ek Tryz.call23 Z (i6 a p0 b 16 x l t _ _ j) ?_)
 rintro _ _ _ - ⟨rfl, rfl, rfl⟩
 refine Ec Z<|fb<|?_
 refine fm rfl ?_ ?_
 ·intro c
  obtain ⟨c, H⟩ := It c H
  refine fc<|fa<|Em Z<|?_
  obtain ⟨i, y, u, H⟩ := ix H
  refine ff rfl (Ek Tryz.call23 Z (i6 a (fg.mk p0.list l p0.value) b 9 i y u _ _ j) ?_)
  rintro _ _ _ - ⟨rfl, rfl, rfl⟩
  refine Er (wI (i - 1)) Z<|Ea Z<|fb<|fy<|?_
  obtain ⟨n, o, p⟩ := jH H
  subst f g h
  refine ⟨(.inl rfl), [(Vi (wI (i - 1)))], ⟨(Vi (wI (i - 1))), _, rfl, rfl, rfl⟩, ?_⟩
  exact Re1<|Sd<|⟨rfl, rfl, rfl⟩
 ·intro c
  obtain ⟨c, H⟩ := If c H
  refine ft<|fc<|fc<|fa<|EF 0 Z<|El (sv e) Z (Rb1 Z)<|Eq Z (ge (T := Ty.i64) q rfl rfl)<|Ec Z<|fb<|?_
  refine fm rfl ?_ ?_
  ·intro d
   obtain ⟨d, H⟩ := It d H
   refine fc<|fa<|Ea Z<|fb<|fy<|?_
   obtain ⟨n, o, p⟩ := jH H
   subst f g h
   refine ⟨(.inl rfl), [(Vi (-1))], ⟨(Vi (-1)), _, rfl, rfl, rfl⟩, ?_⟩
   exact Re1<|Sd<|⟨rfl, rfl, rfl⟩
  ·intro d
   obtain ⟨d, H⟩ := If d H
   refine ft<|fc<|fa<|Em Z<|EF 0 Z<|El (sv e) Z (Rb1 Z)<|Eq Z (ge (T := Ty.i64) q rfl rfl)<|?_
   obtain ⟨m, z, w, H⟩ := ix H
   refine ff rfl (Ek Tryz.call23 Z (i6 a (fg.mk p0.list l p0.value) b (p1.capacities.length : Int) m z w _ _ j) ?_)
   rintro _ _ _ - ⟨rfl, rfl, rfl⟩
   refine Ea Z<|fb<|fy<|?_
   obtain ⟨n, o, p⟩ := jH H
   subst f g h
   refine ⟨(.inl rfl), [(Vi m)], ⟨(Vi m), _, rfl, rfl, rfl⟩, ?_⟩
   exact Re1<|Sd<|⟨rfl, rfl, rfl⟩
theorem xz (b : Nat) (p0 : fg) (a : SV) (c : Int) (d : Int) (H : qQ p0 = some (c, d)) (K : Kp) (G : List Ent) (i : Slr Ty.u8 K (sv a) p0.list) :
  Fc Tryz.prog 71 #[(Vp b)] K ((.blk b 99 (fE p0 a)) :: G) (fun v f e => v = (.int .u64 c) ∧ K = f ∧ (.blk b 99 (fE (fg.mk p0.list p0.at_ d) a)) :: G = e) := by
 refine fO Tryz.func71 rfl Tryz.ntmps71 Tryz.results71 rfl ?_
 unfold qQ at H
 refine fc<|fa<|Ea Z<|fb<|fc<|fa<|Em Z<|Eq Z (fD rfl)<|EF 2 Z<|El (.int .u64 p0.value) Z (Rb0 Z)<|Er (wU (p0.value + 1)) Z<|Eq Z (fD rfl)<|EF 2 Z<|?_
 refine ff rfl (So [(.int .u64 (wU (p0.value + 1)))] (fE (fg.mk p0.list p0.at_ (wU (p0.value + 1))) a) Z .here Z ?_)
 refine fb<|fc<|fa<|Em Z<|Eq Z (fD rfl)<|EF 2 Z<|El (.int .u64 (wU (p0.value + 1))) Z (Rb0 Z)<|Ea Z<|fb<|fy<|?_
 obtain ⟨g, h⟩ := hX H
 subst c d
 refine ⟨(.inl rfl), [(.int .u64 (wU (p0.value + 1)))], ⟨(.int .u64 (wU (p0.value + 1))), _, rfl, rfl, rfl⟩, ?_⟩
 exact Sd ⟨rfl, rfl, rfl⟩
theorem wi (c : Nat) (p0 : fg) (j : SV) (p1 : Op) (a : SV) (b : SV) (l : Op) (r : Int) (s : Int) (H : l8 p0 p1 = some (l, r, s)) (K : Kp) (G : List Ent) (D : Slr Ty.u8 K (sv j) p0.list) (J : Slr fV K (sv a) p1.cases) (L : Slr Ty.i64 K (sv b) p1.draws) :
  Fc Tryz.prog 69 #[(Vp c), (.agg (fj p1 a b).toArray)] K ((.blk c 99 (fE p0 j)) :: G) (fun v i n => ∃ (E : SV) (F : SV), v = (.agg (fj l E F).toArray) ∧ K = i ∧ (.blk c 99 (fE (fg.mk p0.list r s) j)) :: G = n ∧ Slr fV i (sv E) l.cases ∧ Slr Ty.i64 i (sv F) l.draws) := by
 refine fO Tryz.func69 rfl Tryz.ntmps69 Tryz.results69 rfl ?_
 unfold l8 at H
 refine fc<|fa<|?_
 refine ff rfl (fU (cs := (fj p1 a b)) rfl rfl rfl (fun t => ?_))
 refine ff rfl (fC (cs := (fj (Op.mk 0 0 0 0 0 [] []) fA fA)) rfl rfl rfl rfl (fun u => ?_))
 refine fb ?_
 refine fz (fun x i n => ∃ (z : Int) (A : Int) (m : Int) (B : Int) (d : Int) (e : Int) (f : Int) (g : Int) (h : Int), [(3, (Vp t)), (4, (Vp u))] = x ∧ K = i ∧ (.blk c 99 (fE (fg.mk p0.list z A) j)) :: (.blk u 51 (fj (Op.mk m m m B m [] []) fA fA)) :: (.blk t 51 (fj (Op.mk d e f g h p1.cases p1.draws) a b)) :: G = n ∧ lv p0 p1 z A m B d e f g h = some (l, r, s)) ?_ ?_
 ·refine fc<|fa<|Em Z<|?_
  obtain ⟨q, k, M, H⟩ := ix H
  refine Ow.shift (Pu2 (Sd ?_))
  refine ff rfl (Ek Tryz.call23 Z (i6 c p0 j 8 q k M _ _ D) ?_)
  rintro _ _ _ - ⟨rfl, rfl, rfl⟩
  refine fb<|fB<|?_
  refine fz (fun x i n => ∃ (C : Bool), [(0, (Vp c)), (3, (Vp t)), (4, (Vp u)), (6, (Vi q)), (7, (.bool C))] = x ∧ K = i ∧ (.blk c 99 (fE (fg.mk p0.list k p0.value) j)) :: (.blk u 51 (fj (Op.mk 0 0 0 0 0 [] []) fA fA)) :: (.blk t 51 (fj p1 a b)) :: G = n ∧ pa q p0 k p1 C = some (l, r, s)) ?_ ?_
  ·refine fc<|fa<|Ec Z<|Ea Z<|fb<|?_
   refine fm rfl ?_ ?_
   ·intro o
    obtain ⟨o, H⟩ := It o H
    exact ft<|Pu2<|Pu2<|Pu2<|Sd<|⟨_, by exact R5, (dcd (q = 5)), rfl, rfl, rfl, H⟩
   ·intro o
    obtain ⟨o, H⟩ := If o H
    exact fa<|Ec Z<|Ea Z<|fb<|Pu2<|Pu2<|Pu2<|Sd<|⟨_, by exact R5, (dcd (q = 6)), rfl, rfl, rfl, H⟩
  rintro _ _ _ - ⟨C, rfl, rfl, rfl, H⟩
  unfold pa at H
  refine fm rfl ?_ ?_
  ·intro y
   have H := ift y H
   refine fa<|EF 1 Z<|?_
   refine ff rfl (So [(Vi 1)] (fj (Op.mk p1.kind 1 p1.channel p1.value p1.deadline p1.cases p1.draws) a b) Z (.there (.there .here)) Z ?_)
   exact fb<|Pu2<|Pu2<|Pu2<|Sd<|⟨_, by exact R2, k, p0.value, 0, 0, p1.kind, 1, p1.channel, p1.value, p1.deadline, rfl, rfl, rfl, H⟩
  ·intro y
   have H := f0 (btf y) H
   refine fc<|fa<|Ec Z<|Ea Z<|fb<|?_
   refine fm rfl ?_ ?_
   ·intro p
    obtain ⟨p, H⟩ := It p H
    refine fa<|Em Z<|?_
    obtain ⟨w, I, N, H⟩ := ix H
    refine ff rfl (Ek Tryz.call23 Z (i6 c (fg.mk p0.list k p0.value) j 5 w I N _ _ D) ?_)
    rintro _ _ _ - ⟨rfl, rfl, rfl⟩
    refine EF 1 Z ?_
    refine ff rfl (So [(Vi 2)] (fj (Op.mk p1.kind 2 p1.channel p1.value p1.deadline p1.cases p1.draws) a b) Z (.there (.there .here)) Z ?_)
    refine EF 4 Z ?_
    refine ff rfl (So [(Vi w)] (fj (Op.mk p1.kind 2 p1.channel p1.value w p1.cases p1.draws) a b) Z (.there (.there .here)) Z ?_)
    exact fb<|Pu2<|Pu2<|Pu2<|Sd<|⟨_, by exact R2, I, ((fg.mk p0.list k p0.value).value), 0, 0, p1.kind, 2, p1.channel, p1.value, w, rfl, rfl, rfl, H⟩
   ·intro p
    obtain ⟨p, H⟩ := If p H
    exact ft<|Pu2<|Pu2<|Pu2<|Sd<|⟨_, by exact R2, k, p0.value, 0, 0, p1.kind, p1.mode, p1.channel, p1.value, p1.deadline, rfl, rfl, rfl, H⟩
 rintro _ _ _ - ⟨z, A, m, B, d, e, f, g, h, rfl, rfl, rfl, H⟩
 unfold lv at H
 refine fc<|fa<|EL 7 (fj (Op.mk d e f g h p1.cases p1.draws) a b) Z (Rb2 Z)<|?_
 refine ff rfl (Sa (fj (Op.mk d e f g h p1.cases p1.draws) a b) Z (.there .here) Z ?_)
 refine fb<|fy<|?_
 obtain ⟨O, P, Q⟩ := jH H
 subst l r s
 refine ⟨(.inl rfl), [(.agg (fj (Op.mk d e f g h p1.cases p1.draws) a b).toArray)], ⟨(.agg (fj (Op.mk d e f g h p1.cases p1.draws) a b).toArray), _, rfl, ⟨_, 7, (fj (Op.mk d e f g h p1.cases p1.draws) a b), rfl, rfl, rfl, rfl, ⟨rfl, Rb1 Z⟩, rfl⟩, rfl⟩, ?_⟩
 exact Re1<|Re1<|Sd<|⟨a, b, rfl, rfl, rfl, J, L⟩
theorem DL (a : Nat) (p0 : fg) (b : SV) (p1 : fP) (k : SV) (m : SV) (p2 : Int) (w : Op) (F : Int) (I : Int) (H : mL p0 p1 p2 = some (w, F, I)) (K : Kp) (G : List Ent) (aI : Slr Ty.u8 K (sv b) p0.list) (av : Slr Ty.i64 K (sv k) p1.capacities) (aw : Slr Ty.u64 K (sv m) p1.starts) :
  Fc Tryz.prog 72 #[(Vp a), (.agg (fp p1 k m).toArray), (Vi p2)] K ((.blk a 99 (fE p0 b)) :: G) (fun v c i => ∃ (aN : SV) (aO : SV), v = (.agg (fj w aN aO).toArray) ∧ (.blk a 99 (fE (fg.mk p0.list F I) b)) :: G = i ∧ Slr fV c (sv aN) w.cases ∧ Slr Ty.i64 c (sv aO) w.draws) := by
 refine fO Tryz.func72 rfl Tryz.ntmps72 Tryz.results72 rfl ?_
 unfold mL at H
 refine fc<|fa<|?_
 refine ff rfl (fU (cs := (fp p1 k m)) rfl rfl rfl (fun A => ?_))
 refine ff rfl (fC (cs := (fj (Op.mk 0 0 0 0 0 [] []) fA fA)) rfl rfl rfl rfl (fun o => ?_))
 refine fb<|fc<|fa<|Eq Z (fF (cs := (fj (Op.mk 4 0 0 0 0 [] []) fA fA)) rfl rfl rfl rfl rfl rfl)<|?_
 refine ff rfl (fC (cs := (fj (Op.mk 0 0 0 0 0 [] []) fA fA)) rfl rfl rfl rfl (fun p => ?_))
 refine ff rfl (Sa (fj (Op.mk 4 0 0 0 0 [] []) fA fA) Z .here Z ?_)
 refine fb ?_
 refine fz (fun x c i => ∃ (al : Int) (am : Int) (R : SV) (P : af2) (S : SV) (Q : ad1), [(0, (Vp a)), (6, (Vp o)), (7, (Vp p))] = x ∧ (.blk a 99 (fE (fg.mk p0.list al am) b)) :: (.blk p 51 (fj (Op.mk 4 0 0 0 0 P Q) R S)) :: (.blk o 51 (fj (Op.mk 0 0 0 0 0 [] []) fA fA)) :: (.tok 108 3 [(sv R)]) :: (.tok 3 1 [(sv S)]) :: G = i ∧ nP p0 al am P Q = some (w, F, I) ∧ Slr fV c (sv R) P ∧ Slr Ty.i64 c (sv S) Q) ?_ ?_
 ·refine fc<|fa<|Ea Z<|fb<|fB<|?_
  refine f8 (fun aM x c i => ∃ (d : Int) (r : Int) (s : Int) (u : SV) (z : af2) (f : SV) (t : ad1), [(0, (Vp a)), (2, (Vi p2)), (4, (Vp A)), (6, (Vp o)), (7, (Vp p)), (8, (Vi d))] = x ∧ (.blk a 99 (fE (fg.mk p0.list r s) b)) :: (.blk p 51 (fj (Op.mk 4 0 0 0 0 z t) u f)) :: (.blk o 51 (fj (Op.mk 0 0 0 0 0 [] []) fA fA)) :: (.blk A 27 (fp p1 k m)) :: (.tok 108 3 [(sv u)]) :: (.tok 3 1 [(sv f)]) :: G = i ∧ lp5 (nS p2 p0 p1) aM d r s z t = some (w, F, I) ∧ Slr fV c (sv u) z ∧ Slr Ty.i64 c (sv f) t) BIG ?_ ?_
  ·exact Shift.nilTok1 108 3<|Shift.nilTok1 3 1<|Pu1<|Pu4<|Pu4<|Pu4<|Pu5<|Sd<|⟨_, by exact R6, 0, p0.at_, p0.value, fA, ([] : af2), fA, ([] : ad1), rfl, rfl, H, (Slr.nil fV _), (Slr.nil Ty.i64 _)⟩
  rintro aM _ aq _ J ⟨d, r, s, u, z, f, t, rfl, rfl, H, aJ, ak⟩
  obtain ⟨bD, aA, rfl, aX, H⟩ := D4 H
  unfold nS at H
  refine fc<|fc<|fa<|Em Z<|Em Z<|Em Z<|Er (wI (p2 + 1)) Z<|?_
  obtain ⟨bq, L, bm, H⟩ := ix H
  have y := aI.mono J
  refine ff rfl (Ek Tryz.call23 Z (i6 a (fg.mk p0.list r s) b (wI (p2 + 1)) bq L bm _ _ y) ?_)
  rintro _ _ _ - ⟨rfl, rfl, rfl⟩
  refine Ec Z<|fb<|?_
  refine fm rfl ?_ ?_
  ·intro Y
   obtain ⟨Y, H⟩ := It Y H
   refine ft ?_
   refine fz (fun x c i => ∃ (an : Int) (ao : Int) (ad : SV) (ab : af2) (ae : SV) (ac : ad1), [(0, (Vp a)), (2, (Vi p2)), (4, (Vp A)), (6, (Vp o)), (7, (Vp p)), (8, (Vi d))] = x ∧ (.blk a 99 (fE (fg.mk p0.list an ao) b)) :: (.blk p 51 (fj (Op.mk 4 0 0 0 0 ab ac) ad ae)) :: (.blk o 51 (fj (Op.mk 0 0 0 0 0 [] []) fA fA)) :: (.blk A 27 (fp p1 k m)) :: (.tok 108 3 [(sv ad)]) :: (.tok 3 1 [(sv ae)]) :: G = i ∧ nQ p2 d p0 p1 aA an ao ab ac = some (w, F, I) ∧ Slr fV c (sv ad) ab ∧ Slr Ty.i64 c (sv ae) ac) ?_ ?_
   ·refine fB ?_
    refine fz (fun x c i => ∃ (X : Nat) (N : Int) (O : Int) (g : Bool) (j : Int), [(0, (Vp a)), (2, (Vi p2)), (4, (Vp A)), (6, (Vp o)), (7, (Vp p)), (8, (Vi d)), (9, (Vp X))] = x ∧ aq = c ∧ (.blk a 99 (fE (fg.mk p0.list N O) b)) :: (.blk X 108 (fk (Case.mk g j 0))) :: (.blk p 51 (fj (Op.mk 4 0 0 0 0 z t) u f)) :: (.blk o 51 (fj (Op.mk 0 0 0 0 0 [] []) fA fA)) :: (.blk A 27 (fp p1 k m)) :: (.tok 108 3 [(sv u)]) :: (.tok 3 1 [(sv f)]) :: G = i ∧ nR p2 d p0 z t p1 aA N O g j = some (w, F, I)) ?_ ?_
    ·obtain ⟨n, ah, aK, H⟩ := ix H
     obtain ⟨h, U, V, ay, H⟩ := kO H
     refine fq _ rfl (Ic Mb1 (Ic Mb2 (Ic Mb3 (Ic Mb4 (Ic Mb5 In0)))))<|Jm 0 Z<|Jm 3 Z<|JL 4 3 (fp p1 k m) Z (Rb2 Z)<|?_
     refine gU 1 7 (by kernel_rfl) ?_ ?_
     ·refine id (Jy Z ?_)
      refine Ek Tryz.call23 Z (i6 a (fg.mk p0.list L ((fg.mk p0.list r s).value)) b 2 n ah aK _ _ y) ?_
      rintro _ _ _ - ⟨rfl, rfl, rfl⟩
      refine ⟨(Ic Mb1 (Ic Mb2 (Ic Mb3 (Ic Mb4 (Ic Mb5 In0))))), ?_⟩
      refine Jc 2 Z ?_
      refine gU 5 7 (by kernel_rfl) ?_ ?_
      ·refine id (Jy Z ?_)
       have a2 := av.mono J
       have a3 := aw.mono J
       refine Ek Tryz.call70 Z (kw a (fg.mk p0.list ah ((fg.mk p0.list L ((fg.mk p0.list r s).value)).value)) b p1 k m h U V ay _ _ y a2 a3) ?_
       rintro _ _ _ - ⟨rfl, rfl, rfl⟩
       refine ⟨(Ic Mb1 (Ic Mb2 (Ic Mb3 (Ic Mb4 (Ic Mb5 In0))))), ?_⟩
       refine Jq 6 Z (fF (cs := (fk (Case.mk (dcd (n = 1)) h 0))) rfl rfl rfl rfl rfl rfl) ?_
       refine Ao 7 Z ?_
       refine fC (cs := (fk (Case.mk false 0 0))) rfl rfl rfl rfl (fun aQ => ⟨(Ic Mb2 (Ic Mb3 (Ic Mb4 (Ic Mb5 (Ic Mb6 In0))))), ?_⟩)
       refine Ao 8 Z ?_
       refine Sa (fk (Case.mk (dcd (n = 1)) h 0)) Z .here Z ⟨(Ic Mb2 (Ic Mb3 (Ic Mb4 (Ic Mb5 (Ic Mb6 In0))))), ?_⟩
       exact Ad<|Pu6<|Pu6<|Pu6<|Pu6<|Pu6<|Pu5<|Pu6<|Sd<|⟨_, by exact R7, aQ, U, V, (dcd (n = 1)), h, rfl, rfl, rfl, H⟩
      ·refine id (Jy Z ?_)
       refine fC (cs := (fk (Case.mk false 0 0))) rfl rfl rfl rfl (fun aR => ⟨(Ic Mb2 (Ic Mb3 (Ic Mb4 (Ic Mb5 (Ic Mb6 In0))))), ?_⟩)
       refine Ao 5 Z ?_
       refine OpW.shift (Pu1 (Sd ?_))
       have a4 := av.mono J
       have a5 := aw.mono J
       refine Ek Tryz.call70 Z (kw a (fg.mk p0.list ah ((fg.mk p0.list L ((fg.mk p0.list r s).value)).value)) b p1 k m h U V ay _ _ y a4 a5) ?_
       rintro _ _ _ - ⟨rfl, rfl, rfl⟩
       refine ⟨(Ic Mb2 (Ic Mb3 (Ic Mb4 (Ic Mb5 (Ic Mb6 In0))))), ?_⟩
       refine Jq 6 Z (fF (cs := (fk (Case.mk (dcd (n = 1)) h 0))) rfl rfl rfl rfl rfl rfl) ?_
       refine Ao 8 Z ?_
       refine Sa (fk (Case.mk (dcd (n = 1)) h 0)) Z (.there .here) Z ⟨(Ic Mb2 (Ic Mb3 (Ic Mb4 (Ic Mb5 (Ic Mb6 In0))))), ?_⟩
       exact Ad<|Pu6<|Pu6<|Pu6<|Pu6<|Pu6<|Pu6<|Pu6<|Sd<|⟨_, by exact R7, aR, U, V, (dcd (n = 1)), h, rfl, rfl, rfl, H⟩
     ·refine id (Jy Z ?_)
      refine fC (cs := (fk (Case.mk false 0 0))) rfl rfl rfl rfl (fun aS => ⟨(Ic Mb2 (Ic Mb3 (Ic Mb4 (Ic Mb5 (Ic Mb6 In0))))), ?_⟩)
      refine Ao 1 Z ?_
      refine OpW.shift (Pu1 (Sd ?_))
      refine Ek Tryz.call23 Z (i6 a (fg.mk p0.list L ((fg.mk p0.list r s).value)) b 2 n ah aK _ _ y) ?_
      rintro _ _ _ - ⟨rfl, rfl, rfl⟩
      refine ⟨(Ic Mb2 (Ic Mb3 (Ic Mb4 (Ic Mb5 (Ic Mb6 In0))))), ?_⟩
      refine Jc 2 Z ?_
      refine Ao 5 Z ?_
      have a6 := av.mono J
      have a7 := aw.mono J
      refine Ek Tryz.call70 Z (kw a (fg.mk p0.list ah ((fg.mk p0.list L ((fg.mk p0.list r s).value)).value)) b p1 k m h U V ay _ _ y a6 a7) ?_
      rintro _ _ _ - ⟨rfl, rfl, rfl⟩
      refine ⟨(Ic Mb2 (Ic Mb3 (Ic Mb4 (Ic Mb5 (Ic Mb6 In0))))), ?_⟩
      refine Jq 6 Z (fF (cs := (fk (Case.mk (dcd (n = 1)) h 0))) rfl rfl rfl rfl rfl rfl) ?_
      refine Ao 8 Z ?_
      refine Sa (fk (Case.mk (dcd (n = 1)) h 0)) Z (.there .here) Z ⟨(Ic Mb2 (Ic Mb3 (Ic Mb4 (Ic Mb5 (Ic Mb6 In0))))), ?_⟩
      exact Ad<|Pu6<|Pu6<|Pu6<|Pu6<|Pu6<|Pu6<|Pu6<|Sd<|⟨_, by exact R7, aS, U, V, (dcd (n = 1)), h, rfl, rfl, rfl, H⟩
    rintro _ _ _ - ⟨X, N, O, g, j, rfl, rfl, rfl, H⟩
    unfold nR at H
    refine fz (fun x c i => ∃ (B : Int) (C : Int) (D : Int), [(0, (Vp a)), (2, (Vi p2)), (4, (Vp A)), (6, (Vp o)), (7, (Vp p)), (8, (Vi d)), (9, (Vp X))] = x ∧ aq = c ∧ (.blk a 99 (fE (fg.mk p0.list B C) b)) :: (.blk X 108 (fk (Case.mk g j D))) :: (.blk p 51 (fj (Op.mk 4 0 0 0 0 z t) u f)) :: (.blk o 51 (fj (Op.mk 0 0 0 0 0 [] []) fA fA)) :: (.blk A 27 (fp p1 k m)) :: (.tok 108 3 [(sv u)]) :: (.tok 3 1 [(sv f)]) :: G = i ∧ l9 p2 d p0 g j z t p1 aA B C D = some (w, F, I)) ?_ ?_
    ·refine fc<|fa<|EF 0 Z<|El (.bool g) Z (Rb1 Z)<|fb<|?_
     refine fm rfl ?_ ?_
     ·intro au
      have H := ift au H
      refine fa<|Em Z<|?_
      obtain ⟨ap, aP, bn, H⟩ := ix H
      refine ff rfl (Ek Tryz.call71 Z (xz a (fg.mk p0.list N O) b ap aP bn _ _ y) ?_)
      rintro _ _ _ - ⟨rfl, rfl, rfl⟩
      refine EF 2 Z ?_
      refine ff rfl (So [(.int .u64 ap)] (fk (Case.mk g j ap)) Z (.there .here) Z ?_)
      exact fb<|Pu6<|Pu6<|Pu6<|Pu6<|Pu6<|Pu6<|Pu6<|Sd<|⟨_, by exact R7, ((fg.mk p0.list N O).at_), aP, ap, rfl, rfl, rfl, H⟩
     ·intro au
      have H := f0 (btf au) H
      exact ft<|Pu6<|Pu6<|Pu6<|Pu6<|Pu6<|Pu6<|Pu6<|Sd<|⟨_, by exact R7, N, O, 0, rfl, rfl, rfl, H⟩
    rintro _ _ _ - ⟨B, C, D, rfl, rfl, rfl, H⟩
    unfold l9 at H
    refine fc<|fa<|EF 5 Z<|El (sv u) Z (Rb2 Z)<|EL 3 (fk (Case.mk g j D)) Z (Rb1 Z)<|?_
    have aE : RowR fV aq [(fk (Case.mk g j D))] [(Case.mk g j D)] := RowR.cons rfl (RowR.nil)
    refine ff rfl (gg (T := fV) (rows := [(fk (Case.mk g j D))]) (l := [(Case.mk g j D)]) rfl rfl rfl aE rfl rfl rfl rfl rfl rfl rfl rfl (fun bE => ?_))
    obtain ⟨M, bo, H⟩ := bnd H
    refine ff rfl (f7 (T := fV) (bytes := 24) (q := 0) rfl rfl rfl aJ Mb6 rfl (SrcT.row Mb0 aE rfl) bo rfl rfl rfl rfl rfl rfl rfl rfl (fun E ar aa ax => ⟨_, (.there (.there (.there (.there (.there (.there .here)))))), ?_⟩))
    refine Ow.shift (Re0 (Sd ?_))
    refine EF 5 Z ?_
    refine ff rfl (So [(sv E)] (fj (Op.mk 4 0 0 0 0 M t) E f) Z (.there (.there .here)) Z ?_)
    refine fb ?_
    obtain ⟨e, ai, aL, H⟩ := ix H
    obtain ⟨W, az, H⟩ := bnd H
    refine fq _ rfl (Ic Mb1 (Ic Mb3 (Ic Mb4 (Ic Mb5 In0))))<|JF 0 6 Z<|Jm 2 Z<|Jm 3 Z<|Jr 4 (wI (d + 1)) Z<|?_
    refine gU 1 5 (by kernel_rfl) ?_ ?_
    ·refine id (Jyq Z (gn (v := (sv f)) rfl rfl rfl (Rb2 Z)) ⟨(Ic Mb1 (Ic Mb3 (Ic Mb4 (Ic Mb5 In0)))), ?_⟩)
     refine Ao 5 Z ?_
     have a8 := y.mono aa
     refine Ek Tryz.call23 Z (i6 a (fg.mk p0.list B C) b (wI (d + 1)) e ai aL _ _ a8) ?_
     rintro _ _ _ - ⟨rfl, rfl, rfl⟩
     refine ⟨(Ic Mb1 (Ic Mb3 (Ic Mb4 (Ic Mb5 In0)))), ?_⟩
     refine Ao 6 Z ?_
     have aF : RowR Ty.i64 ar [[(Vi e)]] [e] := RowR.cons rfl (RowR.nil)
     refine gg (T := Ty.i64) (rows := [[(Vi e)]]) (l := [e]) rfl rfl rfl aF rfl rfl rfl rfl rfl rfl rfl rfl (fun bF => ⟨(Ic Mb2 (Ic Mb4 (Ic Mb5 (Ic Mb6 In0)))), ?_⟩)
     refine Ao 7 Z ?_
     have ba := ak.mono aa
     refine f7 (T := Ty.i64) (bytes := 8) (q := 0) rfl rfl rfl ba Mb7 rfl (SrcT.row Mb0 aF rfl) az rfl rfl rfl rfl rfl rfl rfl rfl (fun aB bt aT a9 => ⟨_, (.there (.there (.there (.there (.there (.there (.there .here))))))), ⟨(Ic Mb2 (Ic Mb4 (Ic Mb5 (Ic Mb6 In0)))), ?_⟩⟩)
     refine Aw.shift (Re0 (Sd ⟨(Ic Mb1 (Ic Mb3 (Ic Mb4 (Ic Mb5 In0)))), ?_⟩))
     refine JF 8 6 Z ?_
     refine Ao 9 Z ?_
     refine So [(sv aB)] (fj (Op.mk 4 0 0 0 0 M W) E aB) Z (.there (.there .here)) Z ⟨(Ic Mb1 (Ic Mb3 (Ic Mb4 (Ic Mb5 In0)))), ?_⟩
     refine Ad<|Pu6<|Pu6<|Pu6<|Pu6<|Pu6<|Pu5<|Re6<|?_
     have bb := ax.mono aT
     exact Sd ⟨_, by exact R6, ai, ((fg.mk p0.list B C).value), E, M, aB, W, rfl, rfl, H, bb, a9⟩
    ·refine id (Jy Z ?_)
     have bc := y.mono aa
     refine Ek Tryz.call23 Z (i6 a (fg.mk p0.list B C) b (wI (d + 1)) e ai aL _ _ bc) ?_
     rintro _ _ _ - ⟨rfl, rfl, rfl⟩
     refine ⟨(Ic Mb1 (Ic Mb3 (Ic Mb4 (Ic Mb5 In0)))), ?_⟩
     refine gU 1 6 (by kernel_rfl) ?_ ?_
     ·refine id (Jyq Z (gn (v := (sv f)) rfl rfl rfl (Rb2 Z)) ⟨(Ic Mb1 (Ic Mb3 (Ic Mb4 (Ic Mb5 In0)))), ?_⟩)
      refine Ao 6 Z ?_
      have aG : RowR Ty.i64 ar [[(Vi e)]] [e] := RowR.cons rfl (RowR.nil)
      refine gg (T := Ty.i64) (rows := [[(Vi e)]]) (l := [e]) rfl rfl rfl aG rfl rfl rfl rfl rfl rfl rfl rfl (fun bG => ⟨(Ic Mb2 (Ic Mb4 (Ic Mb5 (Ic Mb6 In0)))), ?_⟩)
      refine Ao 7 Z ?_
      have be := ak.mono aa
      refine f7 (T := Ty.i64) (bytes := 8) (q := 0) rfl rfl rfl be Mb7 rfl (SrcT.row Mb0 aG rfl) az rfl rfl rfl rfl rfl rfl rfl rfl (fun aC bu aU bd => ⟨_, (.there (.there (.there (.there (.there (.there (.there .here))))))), ⟨(Ic Mb2 (Ic Mb4 (Ic Mb5 (Ic Mb6 In0)))), ?_⟩⟩)
      refine Aw.shift (Re0 (Sd ⟨(Ic Mb1 (Ic Mb3 (Ic Mb4 (Ic Mb5 In0)))), ?_⟩))
      refine JF 8 6 Z ?_
      refine Ao 9 Z ?_
      refine So [(sv aC)] (fj (Op.mk 4 0 0 0 0 M W) E aC) Z (.there (.there .here)) Z ⟨(Ic Mb1 (Ic Mb3 (Ic Mb4 (Ic Mb5 In0)))), ?_⟩
      refine Ad<|Pu6<|Pu6<|Pu6<|Pu6<|Pu6<|Pu5<|Re6<|?_
      have bf := ax.mono aU
      exact Sd ⟨_, by exact R6, ai, ((fg.mk p0.list B C).value), E, M, aC, W, rfl, rfl, H, bf, bd⟩
     ·refine id (Jy Z ?_)
      have aH : RowR Ty.i64 ar [[(Vi e)]] [e] := RowR.cons rfl (RowR.nil)
      refine gg (T := Ty.i64) (rows := [[(Vi e)]]) (l := [e]) rfl rfl rfl aH rfl rfl rfl rfl rfl rfl rfl rfl (fun bH => ⟨(Ic Mb2 (Ic Mb4 (Ic Mb5 (Ic Mb6 In0)))), ?_⟩)
      refine gx 1 (by kernel_rfl) (Jyq Z (gn (v := (sv f)) rfl rfl rfl (Rb3 Z)) ⟨(Ic Mb2 (Ic Mb4 (Ic Mb5 (Ic Mb6 In0)))), ?_⟩)
      refine Ao 7 Z ?_
      have bh := ak.mono aa
      refine f7 (T := Ty.i64) (bytes := 8) (q := 0) rfl rfl rfl bh Mb7 rfl (SrcT.row Mb0 aH rfl) az rfl rfl rfl rfl rfl rfl rfl rfl (fun aD bv aV bg => ⟨_, (.there (.there (.there (.there (.there (.there (.there .here))))))), ⟨(Ic Mb2 (Ic Mb4 (Ic Mb5 (Ic Mb6 In0)))), ?_⟩⟩)
      refine Aw.shift (Re0 (Sd ⟨(Ic Mb1 (Ic Mb3 (Ic Mb4 (Ic Mb5 In0)))), ?_⟩))
      refine JF 8 6 Z ?_
      refine Ao 9 Z ?_
      refine So [(sv aD)] (fj (Op.mk 4 0 0 0 0 M W) E aD) Z (.there (.there .here)) Z ⟨(Ic Mb1 (Ic Mb3 (Ic Mb4 (Ic Mb5 In0)))), ?_⟩
      refine Ad<|Pu6<|Pu6<|Pu6<|Pu6<|Pu6<|Pu5<|Re6<|?_
      have bi := ax.mono aV
      exact Sd ⟨_, by exact R6, ai, ((fg.mk p0.list B C).value), E, M, aD, W, rfl, rfl, H, bi, bg⟩
   rintro _ bw _ bC ⟨an, ao, ad, ab, ae, ac, rfl, rfl, H, a0, a1⟩
   unfold nQ at H
   exact fa<|Em Z<|Er (wI (d + 1)) Z<|Ea Z<|fb<|Pu5<|Pu5<|Pu5<|Pu5<|Pu5<|Pu5<|Sd<|⟨_, by exact R6, _, Nat.lt_succ_self _, (wI (d + 1)), an, ao, ad, ab, ae, ac, rfl, rfl, (aX ▸ H), a0, a1⟩
  ·intro Y
   obtain ⟨Y, H⟩ := If Y H
   exact ga<|Pu5<|Pu5<|Pu4<|Pu4<|Pu4<|Re5<|Sd<|⟨_, by exact R3, L, ((fg.mk p0.list r s).value), u, z, f, t, rfl, rfl, H, aJ, ak⟩
 rintro _ bx _ aW ⟨al, am, R, P, S, Q, rfl, rfl, H, aY, aZ⟩
 unfold nP at H
 refine fc<|fa<|Em Z<|EL 7 (fj (Op.mk 4 0 0 0 0 P Q) R S) Z (Rb1 Z)<|?_
 obtain ⟨aj, br, bs, bp, H⟩ := kO H
 have bj := aI.mono aW
 refine ff rfl (Ek Tryz.call69 Z (wi a (fg.mk p0.list al am) b (Op.mk 4 0 0 0 0 P Q) R S aj br bs bp _ _ bj aY aZ) ?_)
 rintro _ _ _ - ⟨af, ag, rfl, rfl, rfl, bk, bl⟩
 refine ff rfl (Sa (fj aj af ag) Z (.there (.there .here)) Z ?_)
 refine fb<|fy<|?_
 obtain ⟨bz, bA, bB⟩ := jH H
 subst w F I
 refine ⟨(.inl rfl), [(.agg (fj aj af ag).toArray)], ⟨(.agg (fj aj af ag).toArray), _, rfl, ⟨_, 7, (fj aj af ag), rfl, rfl, rfl, rfl, ⟨rfl, Rb2 Z⟩, rfl⟩, rfl⟩, ?_⟩
 exact Re1<|Re1<|Re1<|Re1<|Sd<|⟨af, ag, rfl, rfl, bk, bl⟩
end Go.Hx
namespace Go.Hx
open Go Go.Proofs
set_option maxRecDepth 10000
set_option maxHeartbeats 1000000
theorem wj (c : Nat) (p0 : fg) (d : SV) (p1 : fP) (a : SV) (b : SV) (f : Op) (g : Int) (h : Int) (H : mM p0 p1 = some (f, g, h)) (K : Kp) (G : List Ent) (e : Slr Ty.u8 K (sv d) p0.list) (j : Slr Ty.i64 K (sv a) p1.capacities) (k : Slr Ty.u64 K (sv b) p1.starts) :
  Fc Tryz.prog 40 #[(Vp c), (.agg (fp p1 a b).toArray)] K ((.blk c 99 (fE p0 d)) :: G) (fun v O U => ∃ (P : SV) (Q : SV), v = (.agg (fj f P Q).toArray) ∧ (.blk c 99 (fE (fg.mk p0.list g h) d)) :: G = U ∧ Slr fV O (sv P) f.cases ∧ Slr Ty.i64 O (sv Q) f.draws) := by
 refine fO Tryz.func40 rfl Tryz.ntmps40 Tryz.results40 rfl ?_
 unfold mM at H
 refine fc<|fa<|?_
 refine ff rfl (fU (cs := (fp p1 a b)) rfl rfl rfl (fun aC => ?_))
 refine ff rfl (fC (cs := (fj (Op.mk 0 0 0 0 0 [] []) fA fA)) rfl rfl rfl rfl (fun aD => ?_))
 refine fb<|fc<|fc<|fa<|Em Z<|?_
 obtain ⟨am, i, ac, H⟩ := ix H
 refine Ow.shift (Pu2 (Sd ?_))
 refine ff rfl (Ek Tryz.call23 Z (i6 c p0 d 20 am i ac _ _ e) ?_)
 rintro _ _ _ - ⟨rfl, rfl, rfl⟩
 refine Ea Z<|fb<|fB<|fc<|fa<|Em Z<|Ec Z<|Ea Z<|fb<|?_
 refine fm rfl ?_ ?_
 ·intro r
  obtain ⟨r, H⟩ := It r H
  refine fc<|fa<|Em Z<|Em Z<|EL 3 (fp p1 a b) Z (Rb2 Z)<|?_
  obtain ⟨I, J, L, ad, H⟩ := kO H
  refine ff rfl (Ek Tryz.call70 Z (kw c (fg.mk p0.list i p0.value) d p1 a b I J L ad _ _ e j k) ?_)
  rintro _ _ _ - ⟨rfl, rfl, rfl⟩
  refine Em Z ?_
  obtain ⟨M, R, ae, H⟩ := ix H
  refine ff rfl (Ek Tryz.call71 Z (xz c (fg.mk p0.list J L) d M R ae _ _ e) ?_)
  rintro _ _ _ - ⟨rfl, rfl, rfl⟩
  refine Eq Z (fF (cs := (fj (Op.mk 1 0 I M 0 [] []) fA fA)) rfl rfl rfl rfl rfl rfl) ?_
  obtain ⟨D, an, ao, af, H⟩ := kO H
  refine ff rfl (Ek Tryz.call69 Z (wi c (fg.mk p0.list ((fg.mk p0.list J L).at_) R) d (Op.mk 1 0 I M 0 [] []) fA fA D an ao af _ _ e (Slr.nil fV _) (Slr.nil Ty.i64 _)) ?_)
  rintro _ _ _ - ⟨x, y, rfl, rfl, rfl, V, W⟩
  refine ff rfl (Sa (fj D x y) Z (.there .here) Z ?_)
  refine fb<|fy<|?_
  obtain ⟨o, p, q⟩ := jH H
  subst f g h
  refine ⟨(.inl rfl), [(.agg (fj D x y).toArray)], ⟨(.agg (fj D x y).toArray), _, rfl, ⟨_, 7, (fj D x y), rfl, rfl, rfl, rfl, ⟨rfl, Rb1 Z⟩, rfl⟩, rfl⟩, ?_⟩
  exact Re1<|Re1<|Sd<|⟨x, y, rfl, rfl, V, W⟩
 ·intro r
  obtain ⟨r, H⟩ := If r H
  refine fc<|fa<|Em Z<|Ec Z<|Ea Z<|fb<|?_
  refine fm rfl ?_ ?_
  ·intro s
   obtain ⟨s, H⟩ := It s H
   refine fc<|fa<|Em Z<|Em Z<|EL 3 (fp p1 a b) Z (Rb2 Z)<|?_
   obtain ⟨N, S, T, ag, H⟩ := kO H
   refine ff rfl (Ek Tryz.call70 Z (kw c (fg.mk p0.list i p0.value) d p1 a b N S T ag _ _ e j k) ?_)
   rintro _ _ _ - ⟨rfl, rfl, rfl⟩
   refine Eq Z (fF (cs := (fj (Op.mk 2 0 N 0 0 [] []) fA fA)) rfl rfl rfl rfl rfl rfl) ?_
   obtain ⟨E, ap, aq, ah, H⟩ := kO H
   refine ff rfl (Ek Tryz.call69 Z (wi c (fg.mk p0.list S T) d (Op.mk 2 0 N 0 0 [] []) fA fA E ap aq ah _ _ e (Slr.nil fV _) (Slr.nil Ty.i64 _)) ?_)
   rintro _ _ _ - ⟨z, A, rfl, rfl, rfl, X, Y⟩
   refine ff rfl (Sa (fj E z A) Z (.there .here) Z ?_)
   refine fb<|fy<|?_
   obtain ⟨o, p, q⟩ := jH H
   subst f g h
   refine ⟨(.inl rfl), [(.agg (fj E z A).toArray)], ⟨(.agg (fj E z A).toArray), _, rfl, ⟨_, 7, (fj E z A), rfl, rfl, rfl, rfl, ⟨rfl, Rb1 Z⟩, rfl⟩, rfl⟩, ?_⟩
   exact Re1<|Re1<|Sd<|⟨z, A, rfl, rfl, X, Y⟩
  ·intro s
   obtain ⟨s, H⟩ := If s H
   refine fc<|fa<|Em Z<|Ec Z<|Ea Z<|fb<|?_
   refine fm rfl ?_ ?_
   ·intro t
    obtain ⟨t, H⟩ := It t H
    refine fc<|fa<|Em Z<|EL 3 (fp p1 a b) Z (Rb2 Z)<|?_
    obtain ⟨F, ar, au, ai, H⟩ := kO H
    refine ff rfl (Ek Tryz.call72 Z (DL c (fg.mk p0.list i p0.value) d p1 a b 4 F ar au ai _ _ e j k) ?_)
    rintro _ aB _ aE ⟨B, C, rfl, rfl, aa, ab⟩
    refine ff rfl (Sa (fj F B C) Z (.there .here) Z ?_)
    refine fb<|fy<|?_
    obtain ⟨o, p, q⟩ := jH H
    subst f g h
    refine ⟨(.inl rfl), [(.agg (fj F B C).toArray)], ⟨(.agg (fj F B C).toArray), _, rfl, ⟨_, 7, (fj F B C), rfl, rfl, rfl, rfl, ⟨rfl, Rb1 Z⟩, rfl⟩, rfl⟩, ?_⟩
    exact Re1<|Re1<|Sd<|⟨B, C, rfl, rfl, aa, ab⟩
   ·intro t
    obtain ⟨t, H⟩ := If t H
    refine fc<|fa<|Em Z<|Ec Z<|Ea Z<|fb<|?_
    refine fm rfl ?_ ?_
    ·intro u
     obtain ⟨u, H⟩ := It u H
     refine fc<|fa<|Em Z<|EL 3 (fp p1 a b) Z (Rb2 Z)<|?_
     obtain ⟨l, av, aw, aj, H⟩ := kO H
     refine ff rfl (Ek Tryz.call70 Z (kw c (fg.mk p0.list i p0.value) d p1 a b l av aw aj _ _ e j k) ?_)
     rintro _ _ _ - ⟨rfl, rfl, rfl⟩
     refine Eq Z (fF (cs := (fj (Op.mk 3 0 l 0 0 [] []) fA fA)) rfl rfl rfl rfl rfl rfl) ?_
     refine ff rfl (Sa (fj (Op.mk 3 0 l 0 0 [] []) fA fA) Z (.there .here) Z ?_)
     refine fb<|fy<|?_
     obtain ⟨o, p, q⟩ := jH H
     subst f g h
     refine ⟨(.inl rfl), [(.agg (fj (Op.mk 3 0 l 0 0 [] []) fA fA).toArray)], ⟨(.agg (fj (Op.mk 3 0 l 0 0 [] []) fA fA).toArray), _, rfl, ⟨_, 7, (fj (Op.mk 3 0 l 0 0 [] []) fA fA), rfl, rfl, rfl, rfl, ⟨rfl, Rb1 Z⟩, rfl⟩, rfl⟩, ?_⟩
     exact Re1<|Re1<|Sd<|⟨fA, fA, rfl, rfl, (Slr.nil fV _), (Slr.nil Ty.i64 _)⟩
    ·intro u
     obtain ⟨u, H⟩ := If u H
     refine fc<|fa<|Em Z<|Ec Z<|Ea Z<|fb<|?_
     refine fm rfl ?_ ?_
     ·intro w
      obtain ⟨w, H⟩ := It w H
      refine fc<|fa<|Em Z<|EL 3 (fp p1 a b) Z (Rb2 Z)<|?_
      obtain ⟨m, ax, ay, ak, H⟩ := kO H
      refine ff rfl (Ek Tryz.call70 Z (kw c (fg.mk p0.list i p0.value) d p1 a b m ax ay ak _ _ e j k) ?_)
      rintro _ _ _ - ⟨rfl, rfl, rfl⟩
      refine Eq Z (fF (cs := (fj (Op.mk 5 0 m 0 0 [] []) fA fA)) rfl rfl rfl rfl rfl rfl) ?_
      refine ff rfl (Sa (fj (Op.mk 5 0 m 0 0 [] []) fA fA) Z (.there .here) Z ?_)
      refine fb<|fy<|?_
      obtain ⟨o, p, q⟩ := jH H
      subst f g h
      refine ⟨(.inl rfl), [(.agg (fj (Op.mk 5 0 m 0 0 [] []) fA fA).toArray)], ⟨(.agg (fj (Op.mk 5 0 m 0 0 [] []) fA fA).toArray), _, rfl, ⟨_, 7, (fj (Op.mk 5 0 m 0 0 [] []) fA fA), rfl, rfl, rfl, rfl, ⟨rfl, Rb1 Z⟩, rfl⟩, rfl⟩, ?_⟩
      exact Re1<|Re1<|Sd<|⟨fA, fA, rfl, rfl, (Slr.nil fV _), (Slr.nil Ty.i64 _)⟩
     ·intro w
      obtain ⟨w, H⟩ := If w H
      refine ft<|fc<|fa<|Em Z<|EL 3 (fp p1 a b) Z (Rb2 Z)<|?_
      obtain ⟨n, az, aA, al, H⟩ := kO H
      refine ff rfl (Ek Tryz.call70 Z (kw c (fg.mk p0.list i p0.value) d p1 a b n az aA al _ _ e j k) ?_)
      rintro _ _ _ - ⟨rfl, rfl, rfl⟩
      refine Eq Z (fF (cs := (fj (Op.mk 6 0 n 0 0 [] []) fA fA)) rfl rfl rfl rfl rfl rfl) ?_
      refine ff rfl (Sa (fj (Op.mk 6 0 n 0 0 [] []) fA fA) Z (.there .here) Z ?_)
      refine fb<|fy<|?_
      obtain ⟨o, p, q⟩ := jH H
      subst f g h
      refine ⟨(.inl rfl), [(.agg (fj (Op.mk 6 0 n 0 0 [] []) fA fA).toArray)], ⟨(.agg (fj (Op.mk 6 0 n 0 0 [] []) fA fA).toArray), _, rfl, ⟨_, 7, (fj (Op.mk 6 0 n 0 0 [] []) fA fA), rfl, rfl, rfl, rfl, ⟨rfl, Rb1 Z⟩, rfl⟩, rfl⟩, ?_⟩
      exact Re1<|Re1<|Sd<|⟨fA, fA, rfl, rfl, (Slr.nil fV _), (Slr.nil Ty.i64 _)⟩
theorem DN (e : Nat) (p0 : fg) (g : SV) (p1 : fP) (j : SV) (k : SV) (p2 : Int) (D : ae3) (E : Int) (F : Int) (H : mN p0 p1 p2 = some (D, E, F)) (K : Kp) (G : List Ent) (a3 : Slr Ty.u8 K (sv g) p0.list) (az : Slr Ty.i64 K (sv j) p1.capacities) (aA : Slr Ty.u64 K (sv k) p1.starts) :
  Fc Tryz.prog 20 #[(Vp e), (.agg (fp p1 j k).toArray), (Vi p2)] K ((.blk e 99 (fE p0 g)) :: G) (fun v n m => ∃ (be : SV) (bc : List (List Value)), v = (sv be) ∧ (.blk e 99 (fE (fg.mk p0.list E F) g)) :: (.row (sv be) 52 1 bc.flatten) :: G = m ∧ RowR (Ty.sl gK) n bc D) := by
 refine fO Tryz.func20 rfl Tryz.ntmps20 Tryz.results20 rfl ?_
 unfold mN at H
 refine fc<|fa<|?_
 refine ff rfl (fU (cs := (fp p1 j k)) rfl rfl rfl (fun I => ?_))
 refine Ea Z<|fb<|fc<|fa<|EF 2 Z<|El (Vi p1.threads) Z (Rb0 Z)<|?_
 obtain ⟨b4, bZ, H⟩ := bnd H
 refine ff rfl (jv (T := (Ty.sl gK)) (r := [(sv fA)]) rfl rfl rfl bZ rfl rfl rfl rfl rfl rfl rfl rfl rfl ⟨fA, rfl, (Slr.nil gK _)⟩ (fun i b1 bp b0 => ?_))
 obtain ⟨b3, bW, rfl⟩ : ∃ vs : List Value, vs = List.replicate p1.threads.toNat (sv fA) ∧ b1 = vs.map one := ⟨_, rfl, by rw [b0]; exact kA.symm⟩
 refine Ow.shift (Shift.nilTokV bW 51 7  (Sd ?_))
 refine Ea Z<|fb<|?_
 refine fz (fun A n m => ∃ (aJ : ae3) (aa : List Value) (aH : Int) (aI : Int), [(7, (sv i))] = A ∧ (.blk e 99 (fE (fg.mk p0.list aH aI) g)) :: (.row (sv i) 52 1 (aa.map one).flatten) :: (.tok 51 7 aa) :: G = m ∧ nT p0 aJ aH aI = some (D, E, F) ∧ RowR (Ty.sl gK) n (aa.map one) aJ) ?_ ?_
 ·refine fc<|fa<|Ea Z<|fb<|fB<|?_
  refine f8 (fun bb A n m => ∃ (d : ae3) (c : List Value) (p : Int) (B : Int) (C : Int), [(0, (Vp e)), (2, (Vi p2)), (4, (Vp I)), (7, (sv i)), (8, (Vi p))] = A ∧ (.blk e 99 (fE (fg.mk p0.list B C) g)) :: (.blk I 27 (fp p1 j k)) :: (.row (sv i) 52 1 (c.map one).flatten) :: (.tok 51 7 c) :: G = m ∧ lp4 (nV p2 p0 p1) bb d p B C = some (D, E, F) ∧ RowR (Ty.sl gK) n (c.map one) d) BIG ?_ ?_
  ·exact Pu1<|Pu2<|Pu3<|Sd<|⟨_, by exact R5, b4, b3, 0, p0.at_, p0.value, rfl, rfl, H, bp⟩
  rintro bb _ bg _ x ⟨d, c, p, B, C, rfl, rfl, H, o⟩
  obtain ⟨cB, ba, rfl, br, H⟩ := lps4 H
  unfold nV at H
  refine fc ?_
  refine fz (fun A n m => ∃ (aK : Bool) (y : Int) (z : Int), [(0, (Vp e)), (2, (Vi p2)), (4, (Vp I)), (7, (sv i)), (8, (Vi p)), (19, (.bool aK))] = A ∧ bg = n ∧ (.blk e 99 (fE (fg.mk p0.list y z) g)) :: (.blk I 27 (fp p1 j k)) :: (.row (sv i) 52 1 (c.map one).flatten) :: (.tok 51 7 c) :: G = m ∧ ma p2 d p p0 p1 ba aK y z = some (D, E, F)) ?_ ?_
  ·refine fa<|Em Z<|Em Z<|Ec Z<|Em Z<|?_
   refine Ee Z ?_ ?_
   ·intro W
    obtain ⟨W, H⟩ := It W H
    refine Vm Z ?_
    obtain ⟨bf, bX, H⟩ := bnd H
    have bC := a3.mono x
    refine hY rfl rfl rfl rfl (Ek Tryz.call22 Z (sP e (fg.mk p0.list B C) g bf bX _ _ bC) ?_)
    rintro _ _ _ - ⟨rfl, rfl, rfl⟩
    exact Et Z<|fb<|Pu3<|Pu3<|Pu3<|Pu3<|Sd<|⟨_, by exact R6, bf, ((fg.mk p0.list B C).at_), ((fg.mk p0.list B C).value), rfl, rfl, rfl, H⟩
   ·intro W
    obtain ⟨W, H⟩ := If W H
    exact Ez Z<|Ez Z<|Ef Z<|fb<|Pu3<|Pu3<|Pu3<|Pu3<|Sd<|⟨_, by exact R6, false, B, C, rfl, rfl, rfl, H⟩
  rintro _ _ _ - ⟨aK, y, z, rfl, rfl, rfl, H⟩
  unfold ma at H
  refine fm rfl ?_ ?_
  ·intro ay
   have H := ift ay H
   refine ft ?_
   refine fz (fun A n m => ∃ (av : ae3) (Y : List Value) (ar : Int) (au : Int), [(0, (Vp e)), (2, (Vi p2)), (4, (Vp I)), (7, (sv i)), (8, (Vi p))] = A ∧ (.blk e 99 (fE (fg.mk p0.list ar au) g)) :: (.blk I 27 (fp p1 j k)) :: (.row (sv i) 52 1 (Y.map one).flatten) :: (.tok 51 7 Y) :: G = m ∧ nU p2 p p0 p1 ba av ar au = some (D, E, F) ∧ RowR (Ty.sl gK) n (Y.map one) av) ?_ ?_
   ·refine fB<|fc<|fa<|Em Z<|EF 2 Z<|El (Vi p1.threads) Z (Rb1 Z)<|?_
    obtain ⟨a, aw, bY, H⟩ := ix H
    have aj := a3.mono x
    refine ff rfl (Ek Tryz.call23 Z (i6 e (fg.mk p0.list y z) g p1.threads a aw bY _ _ aj) ?_)
    rintro _ _ _ - ⟨rfl, rfl, rfl⟩
    refine Ea Z<|fb<|?_
    obtain ⟨cX, L, H⟩ := bnd H
    obtain ⟨b, u, w, aG, H⟩ := kO H
    obtain ⟨h, M, H⟩ := bnd H
    obtain ⟨cY, f, H⟩ := bnd H
    refine fq _ rfl (Ic Mb1 In0)<|Jm 0 Z<|Jm 1 Z<|Jm 2 Z<|Jm 3 Z<|Jm 6 Z<|JL 7 3 (fp p1 j k) Z (Rb0 Z)<|?_
    refine gU 4 8 (by kernel_rfl) ?_ ?_
    ·obtain ⟨cC, X, bs⟩ := RowR.at o L
     obtain ⟨aL, rfl, aC⟩ := bs
     have aF := i8 X
     refine id (Jyq Z (gy (T := (Ty.sl gK)) Mb2 o X (fK L).1 rfl rfl rfl rfl rfl) ⟨(Ic Mb1 In0), ?_⟩)
     refine gU 5 8 (by kernel_rfl) ?_ ?_
     ·refine id (Jyq Z (gn (v := (sv aL)) rfl rfl rfl (gP (T := (Ty.sl gK)) Mb2 o X rfl rfl)) ⟨(Ic Mb1 In0), ?_⟩)
      refine Ao 8 Z ?_
      have bD := az.mono x
      have bE := aA.mono x
      refine Ek Tryz.call40 Z (wj e (fg.mk p0.list aw ((fg.mk p0.list y z).value)) g p1 j k b u w aG _ _ aj bD bE) ?_
      rintro _ bh _ aP ⟨aM, aN, rfl, rfl, bF, bG⟩
      refine ⟨(Ic Mb1 In0), ?_⟩
      refine Ao 9 Z ?_
      have aR : RowR gK bh [(fj b aM aN)] [b] := RowR.cons ⟨aM, aN, rfl, bF, bG⟩ (RowR.nil)
      refine gg (T := gK) (rows := [(fj b aM aN)]) (l := [b]) rfl rfl rfl aR rfl rfl rfl rfl rfl rfl rfl rfl (fun cL => ⟨(Ic Mb2 In0), ?_⟩)
      refine Ao 10 Z ?_
      have bI := aC.mono aP
      refine f7 (T := gK) (bytes := 88) (q := a.toNat) rfl rfl rfl bI Mb4 aF (SrcT.row Mb0 aR rfl) M rfl rfl rfl rfl rfl rfl rfl rfl (fun N b5 bi bH => ⟨_, (.there (.there (.there (.there .here)))), ⟨(Ic Mb2 In0), ?_⟩⟩)
      refine Aw.shift (Re0 (Sd ⟨(Ic Mb1 In0), ?_⟩))
      have ak := (o.mono aP).mono bi
      obtain ⟨cD, ac, bt⟩ := RowR.at ak f
      obtain ⟨cM, rfl, co⟩ := bt
      have cv := i8 ac
      refine gx 11 (by kernel_rfl) (Jyq Z (gy (T := (Ty.sl gK)) Mb2 ak ac (fK f).1 rfl rfl rfl rfl rfl) ⟨(Ic Mb1 In0), ?_⟩)
      refine Ao 12 Z ?_
      refine gV (T := (Ty.sl gK)) (vs := [(sv N)]) (r' := [(sv N)]) (l' := (f6 d a h)) rfl rfl rfl rfl rfl (.there (.there .here)) ak ac rfl rfl rfl (RowR.set a ak ⟨N, rfl, bH⟩) (fun aS => ⟨(Ic Mb1 In0), ?_⟩)
      have hse := iH c a.toNat (sv N)
      rw [hse] at aS ⊢
      clear hse
      have cg := jT ac (v := (sv N))
      exact Ad<|Pu3<|Pu3<|Pu3<|Pu3<|Sd<|⟨_, by exact R5, (f6 d a h), (c.set a.toNat (sv N)), u, w, rfl, rfl, H, aS⟩
     ·refine id (Jy Z ?_)
      have bJ := az.mono x
      have bK := aA.mono x
      refine Ek Tryz.call40 Z (wj e (fg.mk p0.list aw ((fg.mk p0.list y z).value)) g p1 j k b u w aG _ _ aj bJ bK) ?_
      rintro _ aO _ ab ⟨O, P, rfl, rfl, a4, a5⟩
      refine ⟨(Ic Mb1 In0), ?_⟩
      refine gU 5 9 (by kernel_rfl) ?_ ?_
      ·have a6 := o.mono ab
       refine id (Jyq Z (gn (v := (sv aL)) rfl rfl rfl (gP (T := (Ty.sl gK)) Mb2 a6 X rfl rfl)) ⟨(Ic Mb1 In0), ?_⟩)
       refine Ao 9 Z ?_
       have aT : RowR gK aO [(fj b O P)] [b] := RowR.cons ⟨O, P, rfl, a4, a5⟩ (RowR.nil)
       refine gg (T := gK) (rows := [(fj b O P)]) (l := [b]) rfl rfl rfl aT rfl rfl rfl rfl rfl rfl rfl rfl (fun cN => ⟨(Ic Mb2 In0), ?_⟩)
       refine Ao 10 Z ?_
       have bM := aC.mono ab
       refine f7 (T := gK) (bytes := 88) (q := a.toNat) rfl rfl rfl bM Mb4 aF (SrcT.row Mb0 aT rfl) M rfl rfl rfl rfl rfl rfl rfl rfl (fun Q b6 bj bL => ⟨_, (.there (.there (.there (.there .here)))), ⟨(Ic Mb2 In0), ?_⟩⟩)
       refine Aw.shift (Re0 (Sd ⟨(Ic Mb1 In0), ?_⟩))
       have al := a6.mono bj
       obtain ⟨cE, ad, bu⟩ := RowR.at al f
       obtain ⟨cO, rfl, cp⟩ := bu
       have cw := i8 ad
       refine gx 11 (by kernel_rfl) (Jyq Z (gy (T := (Ty.sl gK)) Mb2 al ad (fK f).1 rfl rfl rfl rfl rfl) ⟨(Ic Mb1 In0), ?_⟩)
       refine Ao 12 Z ?_
       refine gV (T := (Ty.sl gK)) (vs := [(sv Q)]) (r' := [(sv Q)]) (l' := (f6 d a h)) rfl rfl rfl rfl rfl (.there (.there .here)) al ad rfl rfl rfl (RowR.set a al ⟨Q, rfl, bL⟩) (fun aU => ⟨(Ic Mb1 In0), ?_⟩)
       have hse := iH c a.toNat (sv Q)
       rw [hse] at aU ⊢
       clear hse
       have ch := jT ad (v := (sv Q))
       exact Ad<|Pu3<|Pu3<|Pu3<|Pu3<|Sd<|⟨_, by exact R5, (f6 d a h), (c.set a.toNat (sv Q)), u, w, rfl, rfl, H, aU⟩
      ·refine id (Jy Z ?_)
       have aV : RowR gK aO [(fj b O P)] [b] := RowR.cons ⟨O, P, rfl, a4, a5⟩ (RowR.nil)
       refine gg (T := gK) (rows := [(fj b O P)]) (l := [b]) rfl rfl rfl aV rfl rfl rfl rfl rfl rfl rfl rfl (fun cP => ⟨(Ic Mb2 In0), ?_⟩)
       have a7 := o.mono ab
       refine gx 5 (by kernel_rfl) (Jyq Z (gn (v := (sv aL)) rfl rfl rfl (gP (T := (Ty.sl gK)) Mb3 a7 X rfl rfl)) ⟨(Ic Mb2 In0), ?_⟩)
       refine Ao 10 Z ?_
       have bO := aC.mono ab
       refine f7 (T := gK) (bytes := 88) (q := a.toNat) rfl rfl rfl bO Mb4 aF (SrcT.row Mb0 aV rfl) M rfl rfl rfl rfl rfl rfl rfl rfl (fun R b7 bk bN => ⟨_, (.there (.there (.there (.there .here)))), ⟨(Ic Mb2 In0), ?_⟩⟩)
       refine Aw.shift (Re0 (Sd ⟨(Ic Mb1 In0), ?_⟩))
       have am := a7.mono bk
       obtain ⟨cF, ae, bv⟩ := RowR.at am f
       obtain ⟨cQ, rfl, cq⟩ := bv
       have cx := i8 ae
       refine gx 11 (by kernel_rfl) (Jyq Z (gy (T := (Ty.sl gK)) Mb2 am ae (fK f).1 rfl rfl rfl rfl rfl) ⟨(Ic Mb1 In0), ?_⟩)
       refine Ao 12 Z ?_
       refine gV (T := (Ty.sl gK)) (vs := [(sv R)]) (r' := [(sv R)]) (l' := (f6 d a h)) rfl rfl rfl rfl rfl (.there (.there .here)) am ae rfl rfl rfl (RowR.set a am ⟨R, rfl, bN⟩) (fun aW => ⟨(Ic Mb1 In0), ?_⟩)
       have hse := iH c a.toNat (sv R)
       rw [hse] at aW ⊢
       clear hse
       have ci := jT ae (v := (sv R))
       exact Ad<|Pu3<|Pu3<|Pu3<|Pu3<|Sd<|⟨_, by exact R5, (f6 d a h), (c.set a.toNat (sv R)), u, w, rfl, rfl, H, aW⟩
    ·refine id (Jy Z ?_)
     have bP := az.mono x
     have bQ := aA.mono x
     refine Ek Tryz.call40 Z (wj e (fg.mk p0.list aw ((fg.mk p0.list y z).value)) g p1 j k b u w aG _ _ aj bP bQ) ?_
     rintro _ ax _ aQ ⟨s, t, rfl, rfl, aD, aE⟩
     refine ⟨(Ic Mb1 In0), ?_⟩
     refine gU 4 9 (by kernel_rfl) ?_ ?_
     ·have J := o.mono aQ
      obtain ⟨cG, af, bw⟩ := RowR.at J L
      obtain ⟨bd, rfl, a8⟩ := bw
      have a9 := i8 af
      refine id (Jyq Z (gy (T := (Ty.sl gK)) Mb2 J af (fK L).1 rfl rfl rfl rfl rfl) ⟨(Ic Mb1 In0), ?_⟩)
      refine gU 5 9 (by kernel_rfl) ?_ ?_
      ·refine id (Jyq Z (gn (v := (sv bd)) rfl rfl rfl (gP (T := (Ty.sl gK)) Mb2 J af rfl rfl)) ⟨(Ic Mb1 In0), ?_⟩)
       refine Ao 9 Z ?_
       have aX : RowR gK ax [(fj b s t)] [b] := RowR.cons ⟨s, t, rfl, aD, aE⟩ (RowR.nil)
       refine gg (T := gK) (rows := [(fj b s t)]) (l := [b]) rfl rfl rfl aX rfl rfl rfl rfl rfl rfl rfl rfl (fun cR => ⟨(Ic Mb2 In0), ?_⟩)
       refine Ao 10 Z ?_
       refine f7 (T := gK) (bytes := 88) (q := a.toNat) rfl rfl rfl a8 Mb4 a9 (SrcT.row Mb0 aX rfl) M rfl rfl rfl rfl rfl rfl rfl rfl (fun S b8 bl bR => ⟨_, (.there (.there (.there (.there .here)))), ⟨(Ic Mb2 In0), ?_⟩⟩)
       refine Aw.shift (Re0 (Sd ⟨(Ic Mb1 In0), ?_⟩))
       have an := J.mono bl
       obtain ⟨cH, ag, bx⟩ := RowR.at an f
       obtain ⟨cS, rfl, cr⟩ := bx
       have cy := i8 ag
       refine gx 11 (by kernel_rfl) (Jyq Z (gy (T := (Ty.sl gK)) Mb2 an ag (fK f).1 rfl rfl rfl rfl rfl) ⟨(Ic Mb1 In0), ?_⟩)
       refine Ao 12 Z ?_
       refine gV (T := (Ty.sl gK)) (vs := [(sv S)]) (r' := [(sv S)]) (l' := (f6 d a h)) rfl rfl rfl rfl rfl (.there (.there .here)) an ag rfl rfl rfl (RowR.set a an ⟨S, rfl, bR⟩) (fun aY => ⟨(Ic Mb1 In0), ?_⟩)
       have hse := iH c a.toNat (sv S)
       rw [hse] at aY ⊢
       clear hse
       have cj := jT ag (v := (sv S))
       exact Ad<|Pu3<|Pu3<|Pu3<|Pu3<|Sd<|⟨_, by exact R5, (f6 d a h), (c.set a.toNat (sv S)), u, w, rfl, rfl, H, aY⟩
      ·refine id (Jy Z ?_)
       have aZ : RowR gK ax [(fj b s t)] [b] := RowR.cons ⟨s, t, rfl, aD, aE⟩ (RowR.nil)
       refine gg (T := gK) (rows := [(fj b s t)]) (l := [b]) rfl rfl rfl aZ rfl rfl rfl rfl rfl rfl rfl rfl (fun cT => ⟨(Ic Mb2 In0), ?_⟩)
       refine gx 5 (by kernel_rfl) (Jyq Z (gn (v := (sv bd)) rfl rfl rfl (gP (T := (Ty.sl gK)) Mb3 J af rfl rfl)) ⟨(Ic Mb2 In0), ?_⟩)
       refine Ao 10 Z ?_
       refine f7 (T := gK) (bytes := 88) (q := a.toNat) rfl rfl rfl a8 Mb4 a9 (SrcT.row Mb0 aZ rfl) M rfl rfl rfl rfl rfl rfl rfl rfl (fun U b9 bm bS => ⟨_, (.there (.there (.there (.there .here)))), ⟨(Ic Mb2 In0), ?_⟩⟩)
       refine Aw.shift (Re0 (Sd ⟨(Ic Mb1 In0), ?_⟩))
       have ao := J.mono bm
       obtain ⟨cI, ah, bz⟩ := RowR.at ao f
       obtain ⟨cU, rfl, ct⟩ := bz
       have cz := i8 ah
       refine gx 11 (by kernel_rfl) (Jyq Z (gy (T := (Ty.sl gK)) Mb2 ao ah (fK f).1 rfl rfl rfl rfl rfl) ⟨(Ic Mb1 In0), ?_⟩)
       refine Ao 12 Z ?_
       refine gV (T := (Ty.sl gK)) (vs := [(sv U)]) (r' := [(sv U)]) (l' := (f6 d a h)) rfl rfl rfl rfl rfl (.there (.there .here)) ao ah rfl rfl rfl (RowR.set a ao ⟨U, rfl, bS⟩) (fun a0 => ⟨(Ic Mb1 In0), ?_⟩)
       have hse := iH c a.toNat (sv U)
       rw [hse] at a0 ⊢
       clear hse
       have ck := jT ah (v := (sv U))
       exact Ad<|Pu3<|Pu3<|Pu3<|Pu3<|Sd<|⟨_, by exact R5, (f6 d a h), (c.set a.toNat (sv U)), u, w, rfl, rfl, H, a0⟩
     ·refine id (Jy Z ?_)
      have a1 : RowR gK ax [(fj b s t)] [b] := RowR.cons ⟨s, t, rfl, aD, aE⟩ (RowR.nil)
      refine gg (T := gK) (rows := [(fj b s t)]) (l := [b]) rfl rfl rfl a1 rfl rfl rfl rfl rfl rfl rfl rfl (fun cV => ⟨(Ic Mb2 In0), ?_⟩)
      have ap := o.mono aQ
      obtain ⟨cJ, aB, bA⟩ := RowR.at ap L
      obtain ⟨b2, rfl, bT⟩ := bA
      have bV := i8 aB
      refine gx 4 (by kernel_rfl) (Jyq Z (gy (T := (Ty.sl gK)) Mb3 ap aB (fK L).1 rfl rfl rfl rfl rfl) ⟨(Ic Mb2 In0), ?_⟩)
      refine gx 5 (by kernel_rfl) (Jyq Z (gn (v := (sv b2)) rfl rfl rfl (gP (T := (Ty.sl gK)) Mb3 ap aB rfl rfl)) ⟨(Ic Mb2 In0), ?_⟩)
      refine Ao 10 Z ?_
      refine f7 (T := gK) (bytes := 88) (q := a.toNat) rfl rfl rfl bT Mb4 bV (SrcT.row Mb0 a1 rfl) M rfl rfl rfl rfl rfl rfl rfl rfl (fun V ca bn bU => ⟨_, (.there (.there (.there (.there .here)))), ⟨(Ic Mb2 In0), ?_⟩⟩)
      refine Aw.shift (Re0 (Sd ⟨(Ic Mb1 In0), ?_⟩))
      have aq := ap.mono bn
      obtain ⟨cK, ai, bB⟩ := RowR.at aq f
      obtain ⟨cW, rfl, cu⟩ := bB
      have cA := i8 ai
      refine gx 11 (by kernel_rfl) (Jyq Z (gy (T := (Ty.sl gK)) Mb2 aq ai (fK f).1 rfl rfl rfl rfl rfl) ⟨(Ic Mb1 In0), ?_⟩)
      refine Ao 12 Z ?_
      refine gV (T := (Ty.sl gK)) (vs := [(sv V)]) (r' := [(sv V)]) (l' := (f6 d a h)) rfl rfl rfl rfl rfl (.there (.there .here)) aq ai rfl rfl rfl (RowR.set a aq ⟨V, rfl, bU⟩) (fun a2 => ⟨(Ic Mb1 In0), ?_⟩)
      have hse := iH c a.toNat (sv V)
      rw [hse] at a2 ⊢
      clear hse
      have cl := jT ai (v := (sv V))
      exact Ad<|Pu3<|Pu3<|Pu3<|Pu3<|Sd<|⟨_, by exact R5, (f6 d a h), (c.set a.toNat (sv V)), u, w, rfl, rfl, H, a2⟩
   rintro _ cb _ cm ⟨av, Y, ar, au, rfl, rfl, H, bo⟩
   unfold nU at H
   exact fa<|Em Z<|Er (wI (p + 1)) Z<|Ea Z<|fb<|Pu3<|Pu3<|Pu3<|Pu3<|Sd<|⟨_, by exact R5, _, Nat.lt_succ_self _, av, Y, (wI (p + 1)), ar, au, rfl, rfl, (br ▸ H), bo⟩
  ·intro ay
   have H := f0 (btf ay) H
   exact ga<|Pu3<|Pu3<|Pu2<|Re3<|Sd<|⟨_, by exact R1, d, c, y, z, rfl, rfl, H, o⟩
 rintro _ cc _ cn ⟨aJ, aa, aH, aI, rfl, rfl, H, bq⟩
 unfold nT at H
 refine fc<|fa<|Em Z<|Ea Z<|fb<|fy<|?_
 obtain ⟨cd, ce, cf⟩ := jH H
 subst D E F
 refine ⟨(.inl rfl), [(sv i)], ⟨(sv i), _, rfl, rfl, rfl⟩, ?_⟩
 exact Pu1<|Pu1<|Re2<|Sd<|⟨i, (aa.map one), rfl, rfl, bq⟩
theorem zp (p0 : Int) (p1 : Int) (c : Int) (H : tO p0 p1 = some c) (K : Kp) (G : List Ent)  :
  Fc Tryz.prog 12 #[(Vi p0), (Vi p1)] K (G) (fun v e d => v = (Vi c) ∧ K = e ∧ G = d) := by
 refine fO Tryz.func12 rfl Tryz.ntmps12 Tryz.results12 rfl ?_
 unfold tO at H
 refine fc<|fa<|Ea Z<|fb<|fc<|fa<|Em Z<|Em Z<|?_
 obtain ⟨b, g, H⟩ := bnd H
 refine Eq Z (Bg g rfl rfl)<|Ea Z<|fb<|fc<|fc<|fa<|Em Z<|Ec Z<|fb<|?_
 refine fm rfl ?_ ?_
 ·intro a
  obtain ⟨a, H⟩ := It a H
  refine fa<|Em Z<|Em Z<|Er (wI (b + p1)) Z<|Ea Z<|fb<|fc<|fa<|Em Z<|Ea Z<|fb<|fy<|?_
  obtain f := gm H
  subst c
  refine ⟨(.inl rfl), [(Vi (wI (b + p1)))], ⟨(Vi (wI (b + p1))), _, rfl, rfl, rfl⟩, ?_⟩
  exact Sd ⟨rfl, rfl, rfl⟩
 ·intro a
  obtain ⟨a, H⟩ := If a H
  refine ft<|fc<|fa<|Em Z<|Ea Z<|fb<|fy<|?_
  obtain f := gm H
  subst c
  refine ⟨(.inl rfl), [(Vi b)], ⟨(Vi b), _, rfl, rfl, rfl⟩, ?_⟩
  exact Sd ⟨rfl, rfl, rfl⟩
end Go.Hx
namespace Go.Hx
open Go Go.Proofs
set_option maxRecDepth 10000
set_option maxHeartbeats 1000000
theorem zk (p0 : ad6) (j : SV) (p1 : Int) (p2 : Int) (p3 : Bool) (c : Int) (H : o6 p0 p1 p2 p3 = some c) (K : Kp) (G : List Ent) (m : Slr f5 K (sv j) p0) :
  Fc Tryz.prog 87 #[(sv j), (Vi p1), (Vi p2), (.bool p3)] K (G) (fun v e b => v = (Vi c) ∧ G = b) := by
 refine fO Tryz.func87 rfl Tryz.ntmps87 Tryz.results87 rfl ?_
 unfold o6 at H
 refine fc<|fa<|Ea Z<|fb<|?_
 refine fz (fun f e b => [] = f ∧ G = b ∧ qj = some c) ?_ ?_
 ·refine fc<|fa<|Em Z<|Eq Z (ge (T := f5) m rfl rfl)<|Em Z<|fb<|fB<|?_
  refine f8 (fun n117 f e b => ∃ (a : Int), [(1, (Vi p1)), (2, (Vi p2)), (3, (.bool p3)), (11, (sv j)), (12, (Vi (p0.length : Int))), (13, (Vi a))] = f ∧ K = e ∧ G = b ∧ lp1 (rR p1 p2 p3 p0) n117 a = some c) BIG ?_ ?_
  ·exact Sd ⟨_, by exact R6, 0, rfl, rfl, rfl, H⟩
  rintro n117 _ _ _ - ⟨a, rfl, rfl, rfl, H⟩
  obtain ⟨x, s, rfl, r, H⟩ := nr H
  unfold rR at H
  refine fc<|fa<|Ec Z<|fb<|fc<|?_
  refine fm rfl ?_ ?_
  ·intro g
   obtain ⟨g, H⟩ := It g H
   refine ft<|fc<|fB<|fc<|fa<|Em Z<|?_
   obtain ⟨d, o, H⟩ := bnd H
   obtain ⟨_, rfl, q⟩ := Slr.at m o
   refine Eq Z (Qi (T := f5) m o Z)<|EL 8 (fJ d) Z (Rdc.k q rfl)<|?_
   refine ff rfl (fC (cs := (fJ (Event.mk 0 0 false (Result.mk 0 0 0 false 0)))) rfl rfl rfl rfl (fun u => ?_))
   refine Ea Z ?_
   refine ff rfl (Sa (fJ d) Z .here Z ?_)
   refine fb ?_
   refine fz (fun f e b => ∃ (n : Bool), [(1, (Vi p1)), (2, (Vi p2)), (3, (.bool p3)), (9, (Vi a)), (11, (sv j)), (12, (Vi (p0.length : Int))), (13, (Vi a)), (33, (.bool n))] = f ∧ K = e ∧ G = b ∧ rQ p1 p2 p3 a p0 s n = some c) ?_ ?_
   ·refine fa<|EF 0 Z<|El (Vi d.thread) Z (Rb0 Z)<|Em Z<|Ec Z<|Em Z<|?_
    refine Ee Z ?_ ?_
    ·intro h
     obtain ⟨h, H⟩ := It h H
     refine VF 1 Z<|Vl (Vi d.op) Z (Rb0 Z)<|Vm Z<|Vc Z<|Et Z<|Em Z<|?_
     refine Ee Z ?_ ?_
     ·intro i
      obtain ⟨i, H⟩ := It i H
      exact VF 2 Z<|Vl (.bool d.ret) Z (Rb0 Z)<|Vm Z<|Vq Z (oK rfl rfl rfl)<|Et Z<|fb<|Re0<|Sd<|⟨_, by exact R8, (d.ret == p3), rfl, rfl, rfl, H⟩
     ·intro i
      obtain ⟨i, H⟩ := If i H
      exact Ez Z<|Ez Z<|Ez Z<|Ez Z<|Ef Z<|fb<|Re0<|Sd<|⟨_, by exact R8, false, rfl, rfl, rfl, H⟩
    ·intro h
     obtain ⟨h, H⟩ := If h H
     exact Ez Z<|Ez Z<|Ez Z<|Ez Z<|Ef Z<|Em Z<|Ez Z<|Ez Z<|Ez Z<|Ez Z<|Ef Z<|fb<|Re0<|Sd<|⟨_, by exact R8, false, rfl, rfl, rfl, H⟩
   rintro _ _ _ - ⟨n, rfl, rfl, rfl, H⟩
   unfold rQ at H
   refine fm rfl ?_ ?_
   ·intro l
    have H := ift l H
    refine fc<|fa<|Em Z<|Ea Z<|fb<|fy<|?_
    obtain p := gm H
    subst c
    refine ⟨(.inl rfl), [(Vi a)], ⟨(Vi a), _, rfl, rfl, rfl⟩, ?_⟩
    exact Sd ⟨rfl, rfl⟩
   ·intro l
    have H := f0 (btf l) H
    exact ft<|fa<|Er (wI (a + 1)) Z<|Em Z<|fb<|Sd<|⟨_, by exact R6, _, Nat.lt_succ_self _, (wI (a + 1)), rfl, rfl, rfl, (r ▸ H)⟩
  ·intro g
   obtain ⟨g, H⟩ := If g H
   exact ga<|Sd<|⟨[], trivial, rfl, rfl, H⟩
 rintro _ t _ w ⟨rfl, rfl, H⟩
 unfold qj at H
 refine fc<|fa<|Ea Z<|fb<|fy<|?_
 obtain p := gm H
 subst c
 refine ⟨(.inl rfl), [(Vi (-1))], ⟨(Vi (-1)), _, rfl, rfl, rfl⟩, ?_⟩
 exact Sd ⟨rfl, rfl⟩
theorem xx (p0 : ad6) (a : SV) (p1 : Int) (p2 : Int) (c : Int) (H : qk p0 p1 p2 = some c) (K : Kp) (G : List Ent) (e : Slr f5 K (sv a) p0) :
  Fc Tryz.prog 55 #[(sv a), (Vi p1), (Vi p2)] K (G) (fun v g d => v = (Vi c) ∧ G = d) := by
 refine fO Tryz.func55 rfl Tryz.ntmps55 Tryz.results55 rfl ?_
 unfold qk at H
 refine fc<|fa<|Ea Z<|fb<|fc<|fa<|Em Z<|Em Z<|Em Z<|?_
 obtain ⟨b, f, H⟩ := bnd H
 refine ff rfl (Ek Tryz.call87 Z (zk p0 a p1 p2 false b f _ _ e) ?_)
 rintro _ h _ j ⟨rfl, rfl⟩
 refine Ea Z<|fb<|fy<|?_
 obtain i := gm H
 subst c
 refine ⟨(.inl rfl), [(Vi b)], ⟨(Vi b), _, rfl, rfl, rfl⟩, ?_⟩
 exact Sd ⟨rfl, rfl⟩
theorem DV (p0 : ad6) (e : SV) (p1 : Int) (p2 : Int) (c : Result) (d : Int) (H : tP p0 p1 p2 = some (c, d)) (K : Kp) (G : List Ent) (f : Slr f5 K (sv e) p0) :
  Fc Tryz.prog 56 #[(sv e), (Vi p1), (Vi p2)] K (G) (fun v p i => v = (.tuple #[(.agg (fe c).toArray), (Vi d)]) ∧ G = i) := by
 refine fO Tryz.func56 rfl Tryz.ntmps56 Tryz.results56 rfl ?_
 unfold tP at H
 refine fc<|fa<|?_
 refine ff rfl (fC (cs := (fe (Result.mk 0 0 0 false 0))) rfl rfl rfl rfl (fun r => ?_))
 refine Ea Z<|fb<|fc<|fa<|Em Z<|Em Z<|Em Z<|?_
 obtain ⟨x14, o, H⟩ := bnd H
 refine ff rfl (Ek Tryz.call87 Z (zk p0 e p1 p2 true x14 o _ _ f) ?_)
 rintro _ q _ m ⟨rfl, rfl⟩
 refine Ea Z<|fb<|fc<|fc<|fa<|Em Z<|Ec Z<|fb<|?_
 refine fm rfl ?_ ?_
 ·intro a
  obtain ⟨a, H⟩ := It a H
  refine fc<|fa<|Eq Z (fF (cs := (fe (Result.mk 0 0 0 false 0))) rfl rfl rfl rfl rfl rfl)<|?_
  refine ff rfl (Sa (fe (Result.mk 0 0 0 false 0)) Z .here Z ?_)
  refine Ea Z<|fb<|fy<|?_
  obtain ⟨j, l⟩ := hX H
  subst c d
  refine ⟨(.inl rfl), [(.agg (fe (Result.mk 0 0 0 false 0)).toArray), (Vi (-1))], ⟨(.agg (fe (Result.mk 0 0 0 false 0)).toArray), _, rfl, ⟨_, 5, (fe (Result.mk 0 0 0 false 0)), rfl, rfl, rfl, rfl, ⟨rfl, Rb0 Z⟩, rfl⟩, ⟨(Vi (-1)), _, rfl, rfl, rfl⟩⟩, ?_⟩
  exact Re0<|Sd<|⟨rfl, rfl⟩
 ·intro a
  obtain ⟨a, H⟩ := If a H
  refine ft<|fc<|fa<|Em Z<|Em Z<|?_
  obtain ⟨b, h, H⟩ := bnd H
  have g := f.mono m
  obtain ⟨_, rfl, n⟩ := Slr.at g h
  refine Eq Z (Qi (T := f5) g h Z)<|EF 3 Z<|EL 5 (fe b.result) Z (Rdc.k n rfl)<|Em Z<|?_
  refine ff rfl (Sa (fe b.result) Z .here Z ?_)
  refine Ea Z<|fb<|fy<|?_
  obtain ⟨j, l⟩ := hX H
  subst c d
  refine ⟨(.inl rfl), [(.agg (fe b.result).toArray), (Vi x14)], ⟨(.agg (fe b.result).toArray), _, rfl, ⟨_, 5, (fe b.result), rfl, rfl, rfl, rfl, ⟨rfl, Rb0 Z⟩, rfl⟩, ⟨(Vi x14), _, rfl, rfl, rfl⟩⟩, ?_⟩
  exact Re0<|Sd<|⟨rfl, rfl⟩
end Go.Hx
namespace Go.Hx
open Go Go.Proofs
set_option maxRecDepth 10000
set_option maxHeartbeats 1000000
theorem BB (p0 : ae3) (J : SV) (p1 : ad6) (w : SV) (z : af9) (A : Bool) (B : ad2) (H : ql p0 p1 = some (z, A, B)) (K : Kp) (G : List Ent) (an : Slr (Ty.sl gK) K (sv J) p0) (ao : Slr f5 K (sv w) p1) :
  Fc Tryz.prog 28 #[(sv J), (sv w)] K (G) (fun v p o => ∃ (ay : Nat) (aZ : SV) (az : Nat) (aA : Array MapEntry) (a2 : Nat), v = (Vp ay) ∧ (.obj az (.map aA a2)) :: (.blk ay 84 [(sv aZ), (.bool A), .nilFunc, (.map (some az)), (sv fA)]) :: G = o ∧ Slr (Ty.sl fX) p (sv aZ) z ∧ MapR Ty.bool Value.string p aA B) := by
 refine fO Tryz.func28 rfl Tryz.ntmps28 Tryz.results28 rfl ?_
 unfold ql at H
 refine fc<|fa<|Ea Z<|fb<|fc<|fa<|Em Z<|Eq Z (ge (T := (Ty.sl gK)) an rfl rfl)<|?_
 obtain ⟨bQ, aT, H⟩ := bnd H
 refine ff rfl (jv (T := (Ty.sl fX)) (r := [(sv fA)]) rfl rfl rfl aT rfl rfl rfl rfl rfl rfl rfl rfl rfl ⟨fA, rfl, (Slr.nil fX _)⟩ (fun f bN cc bJ => ?_))
 obtain ⟨aY, bO, aP, bu, bd⟩ := NestR.new fX K aT
 obtain rfl : bN = aY.map one := by rw [bJ, aP]; exact kA.symm
 refine Ow.shift (Shift.nestNew aP bu 120 14 (Sd ?_))
 refine ff rfl (Ab Ty.bool Value.string rfl (fun j I F a6 => ?_))
 refine Eq Z (fF (cs := [(sv f), (.bool false), .nilFunc, (.map (some j)), (sv fA)]) rfl rfl rfl rfl rfl rfl) ?_
 refine ff rfl (fU (cs := [(sv f), (.bool false), .nilFunc, (.map (some j)), (sv fA)]) rfl rfl rfl (fun m => ?_))
 refine Ea Z<|fb<|?_
 refine fz (fun t p o => ∃ (av : af9) (ak : List Value) (aw : List (List (List Value))), [(5, (Vp m))] = t ∧ (.blk m 84 [(sv f), (.bool false), .nilFunc, (.map (some j)), (sv fA)]) :: (.row (sv f) 121 1 (ak.map one).flatten) :: (.rws 120 14 ak (aw.map List.flatten)) :: (.obj j (.map I F)) :: G = o ∧ ux av = some (z, A, B) ∧ NestR fX p ak aw av) ?_ ?_
 ·refine fc<|fa<|Em Z<|Eq Z (ge (T := (Ty.sl gK)) an rfl rfl)<|Em Z<|fb<|fB<|?_
  refine f8 (fun aV t p o => ∃ (a : Int) (V : af9) (P : List Value) (W : List (List (List Value))), [(0, (sv J)), (1, (sv w)), (5, (Vp m)), (17, (Vi (p0.length : Int))), (18, (Vi a))] = t ∧ (.blk m 84 [(sv f), (.bool false), .nilFunc, (.map (some j)), (sv fA)]) :: (.row (sv f) 121 1 (P.map one).flatten) :: (.rws 120 14 P (W.map List.flatten)) :: (.obj j (.map I F)) :: G = o ∧ lp2 (uB p0 p1) aV a V = some (z, A, B) ∧ NestR fX p P W V) BIG ?_ ?_
  ·exact Pu1<|Pu2<|Pu3<|Pu3<|Sd<|⟨_, by exact R5, 0, bQ, aY, bO, rfl, rfl, H, bd⟩
  rintro aV _ bR _ aa ⟨a, V, P, W, rfl, rfl, H, aB⟩
  obtain ⟨cg, ae, rfl, bl, H⟩ := jF H
  unfold uB at H
  refine fc<|fa<|Ec Z<|fb<|fc<|?_
  refine fm rfl ?_ ?_
  ·intro R
   obtain ⟨R, H⟩ := It R H
   refine ft ?_
   refine fz (fun t p o => ∃ (af : af9) (X : List Value) (ah : List (List (List Value))), [(0, (sv J)), (1, (sv w)), (5, (Vp m)), (17, (Vi (p0.length : Int))), (18, (Vi a))] = t ∧ (.blk m 84 [(sv f), (.bool false), .nilFunc, (.map (some j)), (sv fA)]) :: (.row (sv f) 121 1 (X.map one).flatten) :: (.rws 120 14 X (ah.map List.flatten)) :: (.obj j (.map I F)) :: G = o ∧ tQ p0 p1 a ae af = some (z, A, B) ∧ NestR fX p X ah af) ?_ ?_
   ·refine fB<|fc<|fa<|Em Z<|Ea Z<|fb<|fc<|fa<|Em Z<|Em Z<|?_
    obtain ⟨Q, aQ, H⟩ := bnd H
    have aM := an.mono aa
    obtain ⟨ci, br, bj⟩ := Slr.at aM aQ
    obtain ⟨aj, rfl, aN⟩ := br
    refine Eq Z (Qi (T := (Ty.sl gK)) aM aQ Z)<|El (sv aj) Z (Rdc.k bj rfl)<|Eq Z (ge (T := gK) aN rfl rfl)<|Em Z<|fb<|fB<|?_
    refine f8 (fun aW t p o => ∃ (q : Int) (x : af9) (g : List Value) (y : List (List (List Value))), [(0, (sv J)), (1, (sv w)), (5, (Vp m)), (6, (Vi a)), (17, (Vi (p0.length : Int))), (18, (Vi a)), (24, (sv aj)), (25, (Vi (Q.length : Int))), (26, (Vi q))] = t ∧ (.blk m 84 [(sv f), (.bool false), .nilFunc, (.map (some j)), (sv fA)]) :: (.row (sv f) 121 1 (g.map one).flatten) :: (.rws 120 14 g (y.map List.flatten)) :: (.obj j (.map I F)) :: G = o ∧ lp2 (uA p0 p1 a Q ae) aW q x = some (z, A, B) ∧ NestR fX p g y x) BIG ?_ ?_
    ·exact Pu3<|Pu3<|Pu3<|Pu3<|Sd<|⟨_, by exact R9, 0, V, P, W, rfl, rfl, H, aB⟩
    rintro aW _ bS _ ab ⟨q, x, g, y, rfl, rfl, H, ac⟩
    obtain ⟨ch, aU, rfl, bm, H⟩ := jF H
    unfold uA at H
    refine fc<|fa<|Ec Z<|fb<|fc<|?_
    refine fm rfl ?_ ?_
    ·intro S
     obtain ⟨S, H⟩ := It S H
     refine ft ?_
     refine fz (fun t p o => ∃ (ag : af9) (Y : List Value) (ai : List (List (List Value))), [(0, (sv J)), (1, (sv w)), (5, (Vp m)), (6, (Vi a)), (17, (Vi (p0.length : Int))), (18, (Vi a)), (24, (sv aj)), (25, (Vi (Q.length : Int))), (26, (Vi q))] = t ∧ (.blk m 84 [(sv f), (.bool false), .nilFunc, (.map (some j)), (sv fA)]) :: (.row (sv f) 121 1 (Y.map one).flatten) :: (.rws 120 14 Y (ai.map List.flatten)) :: (.obj j (.map I F)) :: G = o ∧ uy p0 p1 a Q q ae aU ag = some (z, A, B) ∧ NestR fX p Y ai ag) ?_ ?_
     ·refine fB<|fc<|fa<|Em Z<|?_
      obtain ⟨b, aR, H⟩ := bnd H
      have aO := aN.mono ab
      obtain ⟨cj, bs, bk⟩ := Slr.at aO aR
      obtain ⟨c, d, rfl, aq, ar⟩ := bs
      refine Eq Z (Qi (T := gK) aO aR Z)<|EL 7 (fj b c d) Z (Rdc.k bk rfl)<|?_
      refine ff rfl (fC (cs := (fj (Op.mk 0 0 0 0 0 [] []) fA fA)) rfl rfl rfl rfl (fun b1 => ?_))
      refine Ea Z ?_
      refine ff rfl (Sa (fj b c d) Z .here Z ?_)
      refine fb ?_
      refine fz (fun t p o => ∃ (am : Nat) (e : Int), [(0, (sv J)), (1, (sv w)), (5, (Vp m)), (6, (Vi a)), (7, (Vi q)), (9, (Vp am)), (17, (Vi (p0.length : Int))), (18, (Vi a)), (24, (sv aj)), (25, (Vi (Q.length : Int))), (26, (Vi q))] = t ∧ (.blk am 120 (fl (fw.mk b (Result.mk 0 0 0 false 0) e 0) c d)) :: (.blk m 84 [(sv f), (.bool false), .nilFunc, (.map (some j)), (sv fA)]) :: (.row (sv f) 121 1 (g.map one).flatten) :: (.rws 120 14 g (y.map List.flatten)) :: (.obj j (.map I F)) :: G = o ∧ uz p0 p1 a q Q b x ae aU e = some (z, A, B)) ?_ ?_
      ·obtain ⟨E, aS, H⟩ := bnd H
       refine fq _ rfl (Ic Mb0 (Ic Mb1 (Ic Mb2 (Ic Mb3 (Ic Mb4 In0)))))<|JL 0 7 (fj b c d) Z (Rb0 Z)<|Jm 1 Z<|Jm 2 Z<|Jm 3 Z<|?_
       refine gU 4 6 (by kernel_rfl) ?_ ?_
       ·refine id (Jy Z ?_)
        have bv := (ao.mono aa).mono ab
        refine Ek Tryz.call55 Z (xx p1 w a q E aS _ _ bv) ?_
        rintro _ bT _ b5 ⟨rfl, rfl⟩
        refine ⟨(Ic Mb0 (Ic Mb1 (Ic Mb2 (Ic Mb3 (Ic Mb4 In0))))), ?_⟩
        refine Jq 5 Z (fF (cs := (fl (fw.mk b (Result.mk 0 0 0 false 0) E 0) c d)) rfl rfl rfl rfl rfl rfl) ?_
        refine Ao 6 Z ?_
        refine fC (cs := (fl (fw.mk (Op.mk 0 0 0 0 0 [] []) (Result.mk 0 0 0 false 0) 0 0) fA fA)) rfl rfl rfl rfl (fun a0 => ⟨(Ic Mb1 (Ic Mb2 (Ic Mb3 (Ic Mb4 (Ic Mb5 In0))))), ?_⟩)
        refine Ao 7 Z ?_
        refine Sa (fl (fw.mk b (Result.mk 0 0 0 false 0) E 0) c d) Z .here Z ⟨(Ic Mb1 (Ic Mb2 (Ic Mb3 (Ic Mb4 (Ic Mb5 In0))))), ?_⟩
        exact Ad<|Pu5<|Pu5<|Pu5<|Pu5<|Pu4<|Re5<|Sd<|⟨_, by exact R11, a0, E, rfl, rfl, H⟩
       ·refine id (Jy Z ?_)
        refine fC (cs := (fl (fw.mk (Op.mk 0 0 0 0 0 [] []) (Result.mk 0 0 0 false 0) 0 0) fA fA)) rfl rfl rfl rfl (fun a1 => ⟨(Ic Mb1 (Ic Mb2 (Ic Mb3 (Ic Mb4 (Ic Mb5 In0))))), ?_⟩)
        refine Ao 4 Z ?_
        have bw := (ao.mono aa).mono ab
        refine Ek Tryz.call55 Z (xx p1 w a q E aS _ _ bw) ?_
        rintro _ bU _ b6 ⟨rfl, rfl⟩
        refine ⟨(Ic Mb1 (Ic Mb2 (Ic Mb3 (Ic Mb4 (Ic Mb5 In0))))), ?_⟩
        refine Jq 5 Z (fF (cs := (fl (fw.mk b (Result.mk 0 0 0 false 0) E 0) c d)) rfl rfl rfl rfl rfl rfl) ?_
        refine Ao 7 Z ?_
        refine Sa (fl (fw.mk b (Result.mk 0 0 0 false 0) E 0) c d) Z .here Z ⟨(Ic Mb1 (Ic Mb2 (Ic Mb3 (Ic Mb4 (Ic Mb5 In0))))), ?_⟩
        exact Ad<|Pu5<|Pu5<|Pu5<|Pu5<|Pu4<|Re5<|Sd<|⟨_, by exact R11, a1, E, rfl, rfl, H⟩
      rintro _ bV _ u ⟨am, e, rfl, rfl, H⟩
      unfold uz at H
      refine fc<|fc<|fa<|EF 12 Z<|El (Vi e) Z (Rb0 Z)<|Ec Z<|fb<|?_
      refine fm rfl ?_ ?_
      ·intro U
       obtain ⟨U, H⟩ := It U H
       refine ga<|Pu4<|Pu4<|Pu4<|Pu4<|Re4<|?_
       have bx := ac.mono u
       exact Sd ⟨_, by exact R5, x, g, y, rfl, rfl, H, bx⟩
      ·intro U
       obtain ⟨U, H⟩ := If U H
       refine ft<|fc<|fa<|Em Z<|Em Z<|Em Z<|?_
       obtain ⟨h, i, bI, H⟩ := ix H
       have bz := ((ao.mono aa).mono ab).mono u
       refine ff rfl (Ek Tryz.call56 Z (DV p1 w a q h i bI _ _ bz) ?_)
       rintro _ al _ C ⟨rfl, rfl⟩
       refine Em Z<|Ex Z<|Ex Z<|EF 7 Z<|?_
       refine ff rfl (So (fe h) (fl (fw.mk b h e 0) c d) Z .here Z ?_)
       refine EF 13 Z ?_
       refine ff rfl (So [(Vi i)] (fl (fw.mk b h e i) c d) Z .here Z ?_)
       refine fb ?_
       obtain ⟨cw, ad, H⟩ := bnd H
       obtain ⟨ax, au, H⟩ := bnd H
       obtain ⟨cx, L, H⟩ := bnd H
       refine fq _ rfl (Ic Mb0 (Ic Mb1 (Ic Mb4 In0)))<|Jm 0 Z<|Jq 1 Z (fD rfl)<|JF 2 0 Z<|Jl 3 (sv f) Z (Rb1 Z)<|Jm 4 Z<|Jm 5 Z<|Jq 6 Z (fD rfl)<|JF 7 0 Z<|Jl 8 (sv f) Z (Rb1 Z)<|Jm 9 Z<|JL 12 14 (fl (fw.mk b h e i) c d) Z (Rb0 Z)<|?_
       refine gU 10 13 (by kernel_rfl) ?_ ?_
       ·have n := (ac.mono u).mono C
        obtain ⟨aX, ck, ap, aK, aL, aC⟩ := NestR.at n ad
        refine id (Jyq Z (gy (T := pN) Mb2 n.heads ap (fK ad).1 rfl rfl rfl rfl rfl) ⟨(Ic Mb0 (Ic Mb1 (Ic Mb4 In0))), ?_⟩)
        refine gU 11 13 (by kernel_rfl) ?_ ?_
        ·refine Jy Z ?_
         refine OpW.shift (Shift.nestTake (.there (.there (.there .here))) aK aL (Sd ?_))
         refine lP rfl rfl (gn (v := (sv aX)) rfl rfl rfl (gP (T := pN) Mb4 n.heads ap rfl rfl)) ⟨(Ic Mb2 (Ic Mb3 (Ic Mb5 In0))), ?_⟩
         refine Ao 13 Z ?_
         have bA := (aq.mono u).mono C
         have bB := (ar.mono u).mono C
         have aD : RowR fX al [(fl (fw.mk b h e i) c d)] [(fw.mk b h e i)] := RowR.cons ⟨c, d, rfl, bA, bB⟩ (RowR.nil)
         refine gg (T := fX) (rows := [(fl (fw.mk b h e i) c d)]) (l := [(fw.mk b h e i)]) rfl rfl rfl aD rfl rfl rfl rfl rfl rfl rfl rfl (fun ct => ⟨(Ic Mb3 (Ic Mb4 (Ic Mb6 In0))), ?_⟩)
         refine Ao 14 Z ?_
         refine gW (T := fX) (bytes := 144) rfl rfl rfl Mb1 aC (SrcT.row Mb0 aD rfl) au rfl rfl rfl rfl rfl rfl rfl rfl (fun M bK be => ⟨_, (.there .here), ⟨(Ic Mb3 (Ic Mb4 (Ic Mb6 In0))), ?_⟩⟩)
         refine Aw.shift (Re0 (Sd ⟨(Ic Mb2 (Ic Mb3 (Ic Mb5 In0))), ?_⟩))
         obtain ⟨cp, cl, aG, bn, cd, b9⟩ := NestR.at n L
         refine gx 15 (by kernel_rfl) (Jyq Z (gy (T := pN) Mb4 n.heads aG (fK L).1 rfl rfl rfl rfl rfl) ⟨(Ic Mb2 (Ic Mb3 (Ic Mb5 In0))), ?_⟩)
         refine Ao 16 Z ?_
         refine gV (T := pN) (vs := [(sv M)]) (r' := [(sv M)]) (l' := f6 g a (sv M)) rfl rfl rfl rfl rfl (.there (.there (.there (.there .here)))) n.heads aG rfl rfl rfl (RowR.set a n.heads ⟨rfl, _, rfl⟩) (fun _ => ⟨(Ic Mb2 (Ic Mb3 (Ic Mb5 In0))), ?_⟩)
         have hse := iH g a.toNat (sv M)
         rw [hse]
         clear hse
         have ba := NestR.set (s := M) a n be
         refine Aw.shift (Shift.nestOver .here .here (List.getElem?_eq_some_iff.1 bn).1 (Sd ⟨(Ic Mb1 (Ic Mb2 (Ic Mb4 In0))), ?_⟩))
         exact Ad<|Pu4<|Pu1<|Pu4<|Pu4<|Re4<|Sd<|⟨_, by exact R9, (f6 x a ax), (g.set a.toNat (sv M)), (y.set a.toNat bK), rfl, rfl, H, ba⟩
        ·refine id (Jy Z ?_)
         have bC := (aq.mono u).mono C
         have bD := (ar.mono u).mono C
         have aE : RowR fX al [(fl (fw.mk b h e i) c d)] [(fw.mk b h e i)] := RowR.cons ⟨c, d, rfl, bC, bD⟩ (RowR.nil)
         refine gg (T := fX) (rows := [(fl (fw.mk b h e i) c d)]) (l := [(fw.mk b h e i)]) rfl rfl rfl aE rfl rfl rfl rfl rfl rfl rfl rfl (fun cu => ⟨(Ic Mb1 (Ic Mb2 (Ic Mb5 In0))), ?_⟩)
         refine Aw.shift (Shift.nestTake (.there (.there (.there (.there .here)))) aK aL (Sd ⟨(Ic Mb3 (Ic Mb4 (Ic Mb6 In0))), ?_⟩))
         refine gx 11 (by kernel_rfl) (Jyq Z (gn (v := (sv aX)) rfl rfl rfl (gP (T := pN) Mb5 n.heads ap rfl rfl)) ⟨(Ic Mb3 (Ic Mb4 (Ic Mb6 In0))), ?_⟩)
         refine Ao 14 Z ?_
         refine gW (T := fX) (bytes := 144) rfl rfl rfl Mb0 aC (SrcT.row Mb2 aE rfl) au rfl rfl rfl rfl rfl rfl rfl rfl (fun N bL bf => ⟨_, .here, ⟨(Ic Mb3 (Ic Mb4 (Ic Mb6 In0))), ?_⟩⟩)
         refine Aw.shift (Re2 (Sd ⟨(Ic Mb2 (Ic Mb3 (Ic Mb5 In0))), ?_⟩))
         obtain ⟨cq, cm, aH, bo, ce, ca⟩ := NestR.at n L
         refine gx 15 (by kernel_rfl) (Jyq Z (gy (T := pN) Mb4 n.heads aH (fK L).1 rfl rfl rfl rfl rfl) ⟨(Ic Mb2 (Ic Mb3 (Ic Mb5 In0))), ?_⟩)
         refine Ao 16 Z ?_
         refine gV (T := pN) (vs := [(sv N)]) (r' := [(sv N)]) (l' := f6 g a (sv N)) rfl rfl rfl rfl rfl (.there (.there (.there (.there .here)))) n.heads aH rfl rfl rfl (RowR.set a n.heads ⟨rfl, _, rfl⟩) (fun _ => ⟨(Ic Mb2 (Ic Mb3 (Ic Mb5 In0))), ?_⟩)
         have hse := iH g a.toNat (sv N)
         rw [hse]
         clear hse
         have bb := NestR.set (s := N) a n bf
         refine Aw.shift (Shift.nestOver .here .here (List.getElem?_eq_some_iff.1 bo).1 (Sd ⟨(Ic Mb1 (Ic Mb2 (Ic Mb4 In0))), ?_⟩))
         exact Ad<|Pu4<|Pu1<|Pu4<|Pu4<|Re4<|Sd<|⟨_, by exact R9, (f6 x a ax), (g.set a.toNat (sv N)), (y.set a.toNat bL), rfl, rfl, H, bb⟩
       ·refine id (Jy Z ?_)
        have bE := (aq.mono u).mono C
        have bF := (ar.mono u).mono C
        have aF : RowR fX al [(fl (fw.mk b h e i) c d)] [(fw.mk b h e i)] := RowR.cons ⟨c, d, rfl, bE, bF⟩ (RowR.nil)
        refine gg (T := fX) (rows := [(fl (fw.mk b h e i) c d)]) (l := [(fw.mk b h e i)]) rfl rfl rfl aF rfl rfl rfl rfl rfl rfl rfl rfl (fun cv => ⟨(Ic Mb1 (Ic Mb2 (Ic Mb5 In0))), ?_⟩)
        have D := (ac.mono u).mono C
        obtain ⟨bP, cn, aI, bp, bt, bg⟩ := NestR.at D ad
        refine gx 10 (by kernel_rfl) (Jyq Z (gy (T := pN) Mb3 D.heads aI (fK ad).1 rfl rfl rfl rfl rfl) ⟨(Ic Mb1 (Ic Mb2 (Ic Mb5 In0))), ?_⟩)
        refine Aw.shift (Shift.nestTake (.there (.there (.there (.there .here)))) bp bt (Sd ⟨(Ic Mb3 (Ic Mb4 (Ic Mb6 In0))), ?_⟩))
        refine gx 11 (by kernel_rfl) (Jyq Z (gn (v := (sv bP)) rfl rfl rfl (gP (T := pN) Mb5 D.heads aI rfl rfl)) ⟨(Ic Mb3 (Ic Mb4 (Ic Mb6 In0))), ?_⟩)
        refine Ao 14 Z ?_
        refine gW (T := fX) (bytes := 144) rfl rfl rfl Mb0 bg (SrcT.row Mb2 aF rfl) au rfl rfl rfl rfl rfl rfl rfl rfl (fun O bM bh => ⟨_, .here, ⟨(Ic Mb3 (Ic Mb4 (Ic Mb6 In0))), ?_⟩⟩)
        refine Aw.shift (Re2 (Sd ⟨(Ic Mb2 (Ic Mb3 (Ic Mb5 In0))), ?_⟩))
        obtain ⟨cr, co, aJ, bq, cf, cb⟩ := NestR.at D L
        refine gx 15 (by kernel_rfl) (Jyq Z (gy (T := pN) Mb4 D.heads aJ (fK L).1 rfl rfl rfl rfl rfl) ⟨(Ic Mb2 (Ic Mb3 (Ic Mb5 In0))), ?_⟩)
        refine Ao 16 Z ?_
        refine gV (T := pN) (vs := [(sv O)]) (r' := [(sv O)]) (l' := f6 g a (sv O)) rfl rfl rfl rfl rfl (.there (.there (.there (.there .here)))) D.heads aJ rfl rfl rfl (RowR.set a D.heads ⟨rfl, _, rfl⟩) (fun _ => ⟨(Ic Mb2 (Ic Mb3 (Ic Mb5 In0))), ?_⟩)
        have hse := iH g a.toNat (sv O)
        rw [hse]
        clear hse
        have bc := NestR.set (s := O) a D bh
        refine Aw.shift (Shift.nestOver .here .here (List.getElem?_eq_some_iff.1 bq).1 (Sd ⟨(Ic Mb1 (Ic Mb2 (Ic Mb4 In0))), ?_⟩))
        exact Ad<|Pu4<|Pu1<|Pu4<|Pu4<|Re4<|Sd<|⟨_, by exact R9, (f6 x a ax), (g.set a.toNat (sv O)), (y.set a.toNat bM), rfl, rfl, H, bc⟩
     rintro _ bW _ b7 ⟨ag, Y, ai, rfl, rfl, H, a9⟩
     unfold uy at H
     exact fa<|Er (wI (q + 1)) Z<|Em Z<|fb<|Pu3<|Pu3<|Pu3<|Pu3<|Sd<|⟨_, by exact R9, _, Nat.lt_succ_self _, (wI (q + 1)), ag, Y, ai, rfl, rfl, (bm ▸ H), a9⟩
    ·intro S
     obtain ⟨S, H⟩ := If S H
     exact ga<|Pu3<|Pu3<|Pu3<|Pu3<|Sd<|⟨_, by exact R5, x, g, y, rfl, rfl, H, ac⟩
   rintro _ bX _ b8 ⟨af, X, ah, rfl, rfl, H, a8⟩
   unfold tQ at H
   exact fa<|Er (wI (a + 1)) Z<|Em Z<|fb<|Pu3<|Pu3<|Pu3<|Pu3<|Sd<|⟨_, by exact R5, _, Nat.lt_succ_self _, (wI (a + 1)), af, X, ah, rfl, rfl, (bl ▸ H), a8⟩
  ·intro R
   obtain ⟨R, H⟩ := If R H
   exact ga<|Pu3<|Pu3<|Pu3<|Pu3<|Sd<|⟨_, by exact R1, V, P, W, rfl, rfl, H, aB⟩
 rintro _ bY _ a3 ⟨av, ak, aw, rfl, rfl, H, a7⟩
 unfold ux at H
 refine fc<|fa<|Em Z<|Ea Z<|fb<|fy<|?_
 obtain ⟨b2, b3, b4⟩ := jH H
 subst z A B
 refine ⟨(.inl rfl), [(Vp m)], ⟨(Vp m), _, rfl, rfl, rfl⟩, ?_⟩
 refine Shift.nestSettle (T := fX) rfl (.there (.there .here)) a7 ?_
 intro bZ a4 bi
 refine Shift.settle (T := (Ty.sl fX)) (.there .here) bi rfl ?_
 intro b0 a5 bG
 refine Pu2<|Re2<|?_
 have bH := ((a6.mono a3).mono a4).mono a5
 exact Sd ⟨m, f, j, I, F, rfl, rfl, bG, bH⟩
theorem BC (l : Nat) (g : af9) (d : SV) (c : Bool) (u : ad2) (a : Nat) (m : Array MapEntry) (s : Nat) (w : ae4) (b : SV) (o : List (List Value)) (p1 : ad1) (y : SV) (p : Int) (q : Bool) (H : qn g c u w p1 = some (p, q)) (K : Kp) (G : List Ent) (aa : Slr (Ty.sl fX) K (sv d) g) (aB : MapR Ty.bool Value.string K m u) (aC : RowR fW K o w) (ap : Slr Ty.i64 K (sv y) p1) :
  Fc Tryz.prog 57 #[(Vp l), (sv y)] K ((.blk l 84 [(sv d), (.bool c), .nilFunc, (.map (some a)), (sv b)]) :: (.obj a (.map m s)) :: (.row (sv b) 67 6 o.flatten) :: G) (fun v r e => v = (.tuple #[(Vi p), (.bool q)]) ∧ (.blk l 84 [(sv d), (.bool c), .nilFunc, (.map (some a)), (sv b)]) :: (.obj a (.map m s)) :: (.row (sv b) 67 6 o.flatten) :: G = e) := by
 refine fO Tryz.func57 rfl Tryz.ntmps57 Tryz.results57 rfl ?_
 unfold qn at H
 refine fc<|fa<|Ea Z<|Ea Z<|fb<|fc<|fa<|Ea Z<|Ea Z<|fb<|?_
 refine fz (fun h r e => ∃ (C : Int) (E : Bool), [(6, (Vi C)), (7, (.bool E))] = h ∧ (.blk l 84 [(sv d), (.bool c), .nilFunc, (.map (some a)), (sv b)]) :: (.obj a (.map m s)) :: (.row (sv b) 67 6 o.flatten) :: G = e ∧ uD g c w u C E = some (p, q)) ?_ ?_
 ·refine fc<|fa<|Em Z<|Eq Z (fD rfl)<|EF 0 Z<|El (sv d) Z (Rb0 Z)<|Eq Z (ge (T := (Ty.sl fX)) aa rfl rfl)<|Em Z<|fb<|fB<|?_
  refine f8 (fun ai h r e => ∃ (D : Int) (F : Bool) (f : Int), [(1, (sv y)), (6, (Vi D)), (7, (.bool F)), (15, (sv d)), (16, (Vi (g.length : Int))), (17, (Vi f))] = h ∧ (.blk l 84 [(sv d), (.bool c), .nilFunc, (.map (some a)), (sv b)]) :: (.obj a (.map m s)) :: (.row (sv b) 67 6 o.flatten) :: G = e ∧ lp3 (uG p1 g c w u) ai D F f = some (p, q)) BIG ?_ ?_
  ·exact Pu2<|Pu2<|Pu2<|Sd<|⟨_, by exact R6, 0, false, 0, rfl, rfl, H⟩
  rintro ai _ V _ X ⟨D, F, f, rfl, rfl, H⟩
  obtain ⟨aF, O, rfl, ao, H⟩ := xO H
  unfold uG at H
  refine fc<|fa<|Ec Z<|fb<|fc<|?_
  refine fm rfl ?_ ?_
  ·intro z
   obtain ⟨z, H⟩ := It z H
   refine ft ?_
   refine fz (fun h r e => ∃ (I : Int) (J : Bool), [(1, (sv y)), (6, (Vi I)), (7, (.bool J)), (15, (sv d)), (16, (Vi (g.length : Int))), (17, (Vi f))] = h ∧ (.blk l 84 [(sv d), (.bool c), .nilFunc, (.map (some a)), (sv b)]) :: (.obj a (.map m s)) :: (.row (sv b) 67 6 o.flatten) :: G = e ∧ uE p1 g f c w u O I J = some (p, q)) ?_ ?_
   ·refine fB<|fc<|fa<|Em Z<|?_
    obtain ⟨ak, ae, H⟩ := bnd H
    have ab := aa.mono X
    obtain ⟨aH, aq, al⟩ := Slr.at ab ae
    obtain ⟨Q, rfl, ac⟩ := aq
    refine Eq Z (Qi (T := (Ty.sl fX)) ab ae Z)<|El (sv Q) Z (Rdc.k al rfl)<|Ea Z<|Ea Z<|fb<|fc<|fa<|Em Z<|Em Z<|Em Z<|?_
    obtain ⟨U, af, H⟩ := bnd H
    have ad := ap.mono X
    obtain ⟨_, rfl, am⟩ := Slr.at ad af
    refine Eq Z (Qi (T := Ty.i64) ad af Z)<|El (Vi U) Z (Rdc.k am rfl)<|?_
    obtain ⟨L, ag, H⟩ := bnd H
    have N := Slr.cutL ac ag
    refine Eq Z (lw (T := fX) ac ag rfl rfl rfl rfl rfl)<|Eq Z (ge (T := fX) N rfl rfl)<|Em Z<|fb<|fB<|?_
    refine f8 (fun aj h r e => ∃ (n : Int) (x : Bool) (i : Int), [(1, (sv y)), (6, (Vi n)), (7, (.bool x)), (15, (sv d)), (16, (Vi (g.length : Int))), (17, (Vi f)), (27, (sv (jo Q 14 U.toNat ak.length))), (28, (Vi (L.length : Int))), (29, (Vi i))] = h ∧ V = r ∧ (.blk l 84 [(sv d), (.bool c), .nilFunc, (.map (some a)), (sv b)]) :: (.obj a (.map m s)) :: (.row (sv b) 67 6 o.flatten) :: G = e ∧ lp3 (uF p1 g f L c w u O) aj n x i = some (p, q)) BIG ?_ ?_
    ·exact Pu2<|Pu2<|Pu2<|Sd<|⟨_, by exact R9, D, F, 0, rfl, rfl, rfl, H⟩
    rintro aj _ _ _ - ⟨n, x, i, rfl, rfl, rfl, H⟩
    obtain ⟨aG, au, rfl, Y, H⟩ := xO H
    unfold uF at H
    refine fc<|fa<|Ec Z<|fb<|fc<|?_
    refine fm rfl ?_ ?_
    ·intro A
     obtain ⟨A, H⟩ := It A H
     refine ft<|fc<|fB<|fc<|fa<|?_
     obtain ⟨j, ah, H⟩ := bnd H
     obtain ⟨aI, ar, an⟩ := Slr.at N ah
     obtain ⟨R, S, rfl, aD, aE⟩ := ar
     refine Eq Z (Qi (T := fX) N ah Z)<|EL 14 (fl j R S) Z (Rdc.k an rfl)<|?_
     refine ff rfl (fC (cs := (fl (fw.mk (Op.mk 0 0 0 0 0 [] []) (Result.mk 0 0 0 false 0) 0 0) fA fA)) rfl rfl rfl rfl (fun W => ?_))
     refine ff rfl (Sa (fl j R S) Z .here Z ?_)
     refine fb ?_
     refine fz (fun h r e => ∃ (P : Bool), [(1, (sv y)), (6, (Vi n)), (7, (.bool x)), (11, (Vp W)), (15, (sv d)), (16, (Vi (g.length : Int))), (17, (Vi f)), (27, (sv (jo Q 14 U.toNat ak.length))), (28, (Vi (L.length : Int))), (29, (Vi i)), (45, (.bool P))] = h ∧ V = r ∧ (.blk l 84 [(sv d), (.bool c), .nilFunc, (.map (some a)), (sv b)]) :: (.blk W 120 (fl j R S)) :: (.obj a (.map m s)) :: (.row (sv b) 67 6 o.flatten) :: G = e ∧ rT p1 n x g f L i c w j u O au P = some (p, q)) ?_ ?_
     ·refine fa<|EF 13 Z<|El (Vi j.coming) Z (Rb0 Z)<|Ec Z<|Em Z<|?_
      refine Ee Z ?_ ?_
      ·intro B
       obtain ⟨B, H⟩ := It B H
       refine Vm Z<|Vq Z (gd rfl)<|Vm Z<|?_
       refine Ee Z ?_ ?_
       ·intro t
        have t := ir t
        have H := f0 (btf t) H
        exact Ez Z<|Ez Z<|Ez Z<|Ez Z<|Vt Z<|Et Z<|fb<|Pu3<|Pu3<|Pu2<|Pu3<|Sd<|⟨_, by exact R11, true, rfl, rfl, rfl, H⟩
       ·intro t
        have t := iq t
        have H := ift t H
        exact VF 13 Z<|Vl (Vi j.coming) Z (Rb0 Z)<|Vm Z<|Vc Z<|Vf Z<|Et Z<|fb<|Pu3<|Pu3<|Pu2<|Pu3<|Sd<|⟨_, by exact R11, (dcd (j.coming < n)), rfl, rfl, rfl, H⟩
      ·intro B
       obtain ⟨B, H⟩ := If B H
       exact Ez Z<|Ez Z<|Ez Z<|gb rfl rfl rfl rfl rfl<|gb rfl rfl rfl rfl rfl<|gb rfl rfl rfl rfl rfl<|gb rfl rfl rfl rfl rfl<|Ez Z<|Ef Z<|fb<|Pu3<|Pu3<|Pu2<|Pu3<|Sd<|⟨_, by exact R11, false, rfl, rfl, rfl, H⟩
     rintro _ _ _ - ⟨P, rfl, rfl, rfl, H⟩
     unfold rT at H
     refine fm rfl ?_ ?_
     ·intro M
      have H := ift M H
      exact fa<|EF 13 Z<|El (Vi j.coming) Z (Rb1 Z)<|Ea Z<|Ea Z<|fb<|fa<|Er (wI (i + 1)) Z<|Em Z<|fb<|Pu3<|Pu3<|Pu2<|Re3<|Sd<|⟨_, by exact R9, _, Nat.lt_succ_self _, j.coming, true, (wI (i + 1)), rfl, rfl, rfl, (Y ▸ H)⟩
     ·intro M
      have H := f0 (btf M) H
      exact ft<|fa<|Er (wI (i + 1)) Z<|Em Z<|fb<|Pu3<|Pu3<|Pu2<|Re3<|Sd<|⟨_, by exact R9, _, Nat.lt_succ_self _, n, x, (wI (i + 1)), rfl, rfl, rfl, (Y ▸ H)⟩
    ·intro A
     obtain ⟨A, H⟩ := If A H
     exact ga<|Pu2<|Pu2<|Pu2<|Sd<|⟨_, by exact R6, n, x, rfl, rfl, H⟩
   rintro _ av _ az ⟨I, J, rfl, rfl, H⟩
   unfold uE at H
   exact fa<|Er (wI (f + 1)) Z<|Em Z<|fb<|Pu2<|Pu2<|Pu2<|Sd<|⟨_, by exact R6, _, Nat.lt_succ_self _, I, J, (wI (f + 1)), rfl, rfl, (ao ▸ H)⟩
  ·intro z
   obtain ⟨z, H⟩ := If z H
   exact ga<|Pu2<|Pu2<|Pu2<|Sd<|⟨_, by exact R2, D, F, rfl, rfl, H⟩
 rintro _ aw _ aA ⟨C, E, rfl, rfl, H⟩
 unfold uD at H
 refine fc<|fa<|Em Z<|Em Z<|Ea Z<|Ea Z<|fb<|fy<|?_
 obtain ⟨ax, ay⟩ := hX H
 subst p q
 refine ⟨(.inl rfl), [(Vi C), (.bool E)], ⟨(Vi C), _, rfl, rfl, ⟨(.bool E), _, rfl, rfl, rfl⟩⟩, ?_⟩
 exact Pu2<|Pu2<|Pu2<|Sd<|⟨rfl, rfl⟩
end Go.Hx
namespace Go.Hx
open Go Go.Proofs
set_option maxRecDepth 10000
set_option maxHeartbeats 1000000
theorem CG (p0 : ad1) (d : SV) (b : List (List Value)) (p1 : Int) (p2 : Int) (f : ad1) (H : yD p0 p1 p2 = some f) (K : Kp) (G : List Ent) (h : RowR Ty.u8 K b p0) (hT : mq K) :
  Fc Tryz.prog 116 #[(sv d), (.int .u64 p1), (Vi p2)] K ((.row (sv d) 5 1 b.flatten) :: G) (fun v a g => ∃ (e : SV) (c : List (List Value)), v = (sv e) ∧ K = a ∧ (.row (sv e) 5 1 c.flatten) :: G = g ∧ RowR Ty.u8 a c f) :=
 qg H h hT
theorem Cf (p0 : ad1) (m : SV) (j : List (List Value)) (p1 : Int) (p2 : Int) (h : ad1) (H : uH p0 p1 p2 = some h) (K : Kp) (G : List Ent) (o : RowR Ty.u8 K j p0) (hT : mq K) :
  Fc Tryz.prog 114 #[(sv m), (Vi p1), (Vi p2)] K ((.row (sv m) 5 1 j.flatten) :: G) (fun v a i => ∃ (q : SV) (p : List (List Value)), v = (sv q) ∧ K = a ∧ (.row (sv q) 5 1 p.flatten) :: G = i ∧ RowR Ty.u8 a p h) := by
 refine fO Tryz.func114 rfl Tryz.ntmps114 Tryz.results114 rfl ?_
 unfold uH at H
 refine fc<|fa<|Ea Z<|fb<|fc<|fa<|Em Z<|Eq Z (mX (c := wU p1) rfl rfl rfl rfl)<|Ea Z<|fb<|?_
 refine fz (fun r a i => ∃ (g : SV) (e : ad1) (f : List (List Value)) (i32 : Int) (d : Int), [(0, (sv g)), (2, (Vi i32)), (7, (.int .u64 d))] = r ∧ K = a ∧ (.row (sv g) 5 1 f.flatten) :: G = i ∧ qo e i32 d = some h ∧ RowR Ty.u8 a f e) ?_ ?_
 ·refine fc<|fa<|Em Z<|Ec Z<|fb<|?_
  refine fm rfl ?_ ?_
  ·intro b
   obtain ⟨b, H⟩ := It b H
   refine fc<|fa<|Em Z<|?_
   have n : RowR Ty.u8 K [[(.int .u8 45)]] [45] := RowR.cons rfl (RowR.nil)
   refine ff rfl (gg (T := Ty.u8) (rows := [[(.int .u8 45)]]) (l := [45]) rfl rfl rfl n rfl rfl rfl rfl rfl rfl rfl rfl (fun E => ?_))
   obtain ⟨B, w, H⟩ := bnd H
   refine ff rfl (gW (T := Ty.u8) (bytes := 1) rfl rfl rfl Mb1 o (SrcT.row Mb0 n rfl) w rfl rfl rfl rfl rfl rfl rfl rfl (fun A y t => ⟨_, (.there .here), ?_⟩))
   refine Ow.shift (Re0 (Sd ?_))
   exact Ea Z<|fb<|fa<|Em Z<|Eq Z (EK (c := wU (0 - (wU p1))) rfl rfl)<|Ea Z<|fb<|Sd<|⟨_, by exact R3, A, B, y, p2, (wU (0 - (wU p1))), rfl, rfl, rfl, H, t⟩
  ·intro b
   obtain ⟨b, H⟩ := If b H
   exact ft<|Sd<|⟨_, by exact R3, m, p0, j, p2, (wU p1), rfl, rfl, rfl, H, o⟩
 rintro _ _ _ - ⟨g, e, f, i32, d, rfl, rfl, rfl, H, s⟩
 unfold qo at H
 refine fc<|fa<|Em Z<|Em Z<|Em Z<|?_
 obtain ⟨C, x, H⟩ := bnd H
 refine ff rfl (Ek Tryz.call116 Z (CG e g f d i32 C x _ _ s hT) ?_)
 rintro _ _ _ - ⟨k, z, rfl, rfl, rfl, u⟩
 refine Ea Z<|fb<|fy<|?_
 obtain D := gm H
 subst h
 refine ⟨(.inl rfl), [(sv k)], ⟨(sv k), _, rfl, rfl, rfl⟩, ?_⟩
 exact Sd ⟨k, z, rfl, rfl, rfl, u⟩
theorem CH (p0 : ad1) (d : SV) (b : List (List Value)) (p1 : Bool) (f : ad1) (H : yE p0 p1 = some f) (K : Kp) (G : List Ent) (h : RowR Ty.u8 K b p0) :
  Fc Tryz.prog 115 #[(sv d), (.bool p1)] K ((.row (sv d) 5 1 b.flatten) :: G) (fun v a g => ∃ (e : SV) (c : List (List Value)), v = (sv e) ∧ K = a ∧ (.row (sv e) 5 1 c.flatten) :: G = g ∧ RowR Ty.u8 a c f) :=
 yt H h
theorem CJ (p0 : ad1) (d : SV) (b : List (List Value)) (p1 : Int) (p2 : Int) (f : ad1) (H : yF p0 p1 p2 = some f) (K : Kp) (G : List Ent) (h : RowR Ty.u8 K b p0) (hT : mq K) :
  Fc Tryz.prog 116 #[(sv d), (.int .u64 p1), (Vi p2)] K ((.row (sv d) 5 1 b.flatten) :: G) (fun v a g => ∃ (e : SV) (c : List (List Value)), v = (sv e) ∧ K = a ∧ (.row (sv e) 5 1 c.flatten) :: G = g ∧ RowR Ty.u8 a c f) :=
 qg H h hT
end Go.Hx
namespace Go.Hx
open Go Go.Proofs
set_option maxRecDepth 10000
set_option maxHeartbeats 1000000
theorem BD (p0 : ad1) (c : SV) (a : List (List Value)) (p1 : Int) (p2 : Int) (d : ad1) (H : qp p0 p1 p2 = some d) (K : Kp) (G : List Ent) (i : RowR Ty.u8 K a p0) (hT : mq K) :
  Fc Tryz.prog 88 #[(sv c), (Vi p1), (Vi p2)] K ((.row (sv c) 5 1 a.flatten) :: G) (fun v e h => ∃ (g : SV) (f : List (List Value)), v = (sv g) ∧ K = e ∧ (.row (sv g) 5 1 f.flatten) :: G = h ∧ RowR Ty.u8 e f d) := by
 refine fO Tryz.func88 rfl Tryz.ntmps88 Tryz.results88 rfl ?_
 unfold qp at H
 refine fc<|fa<|Ea Z<|fb<|fc<|fa<|Em Z<|Em Z<|Em Z<|?_
 obtain ⟨m, k, H⟩ := bnd H
 refine ff rfl (Ek Tryz.call114 Z (Cf p0 c a p1 p2 m k _ _ i hT) ?_)
 rintro _ _ _ - ⟨b, l, rfl, rfl, rfl, j⟩
 refine Ea Z<|fb<|fy<|?_
 obtain n := gm H
 subst d
 refine ⟨(.inl rfl), [(sv b)], ⟨(sv b), _, rfl, rfl, rfl⟩, ?_⟩
 exact Sd ⟨b, l, rfl, rfl, rfl, j⟩
theorem BE (p0 : ad1) (c : SV) (a : List (List Value)) (p1 : Bool) (d : ad1) (H : qq p0 p1 = some d) (K : Kp) (G : List Ent) (i : RowR Ty.u8 K a p0) :
  Fc Tryz.prog 89 #[(sv c), (.bool p1)] K ((.row (sv c) 5 1 a.flatten) :: G) (fun v e h => ∃ (g : SV) (f : List (List Value)), v = (sv g) ∧ K = e ∧ (.row (sv g) 5 1 f.flatten) :: G = h ∧ RowR Ty.u8 e f d) := by
 refine fO Tryz.func89 rfl Tryz.ntmps89 Tryz.results89 rfl ?_
 unfold qq at H
 refine fc<|fa<|Ea Z<|fb<|fc<|fa<|Em Z<|Em Z<|?_
 obtain ⟨m, k, H⟩ := bnd H
 refine ff rfl (Ek Tryz.call115 Z (CH p0 c a p1 m k _ _ i) ?_)
 rintro _ _ _ - ⟨b, l, rfl, rfl, rfl, j⟩
 refine Ea Z<|fb<|fy<|?_
 obtain n := gm H
 subst d
 refine ⟨(.inl rfl), [(sv b)], ⟨(sv b), _, rfl, rfl, rfl⟩, ?_⟩
 exact Sd ⟨b, l, rfl, rfl, rfl, j⟩
theorem BG (p0 : ad1) (c : SV) (a : List (List Value)) (p1 : Int) (p2 : Int) (d : ad1) (H : qs p0 p1 p2 = some d) (K : Kp) (G : List Ent) (i : RowR Ty.u8 K a p0) (hT : mq K) :
  Fc Tryz.prog 90 #[(sv c), (.int .u64 p1), (Vi p2)] K ((.row (sv c) 5 1 a.flatten) :: G) (fun v e h => ∃ (g : SV) (f : List (List Value)), v = (sv g) ∧ K = e ∧ (.row (sv g) 5 1 f.flatten) :: G = h ∧ RowR Ty.u8 e f d) := by
 refine fO Tryz.func90 rfl Tryz.ntmps90 Tryz.results90 rfl ?_
 unfold qs at H
 refine fc<|fa<|Ea Z<|fb<|fc<|fa<|Em Z<|Em Z<|Em Z<|?_
 obtain ⟨m, k, H⟩ := bnd H
 refine ff rfl (Ek Tryz.call116 Z (CJ p0 c a p1 p2 m k _ _ i hT) ?_)
 rintro _ _ _ - ⟨b, l, rfl, rfl, rfl, j⟩
 refine Ea Z<|fb<|fy<|?_
 obtain n := gm H
 subst d
 refine ⟨(.inl rfl), [(sv b)], ⟨(sv b), _, rfl, rfl, rfl⟩, ?_⟩
 exact Sd ⟨b, l, rfl, rfl, rfl, j⟩
end Go.Hx
namespace Go.Hx
open Go Go.Proofs
set_option maxRecDepth 10000
set_option maxHeartbeats 1000000
theorem BH (p0 : ad1) (O : SV) (p1 : ad0) (f : SV) (e : ByteArray) (H : qu p0 p1 = some e) (K : Kp) (G : List Ent) (I : Slr Ty.i64 K (sv O) p0) (aC : Slr fG K (sv f) p1) (hT : mq K) :
  Fc Tryz.prog 58 #[(sv O), (sv f)] K (G) (fun v a b => v = (.string e) ∧ G = b) := by
 refine fO Tryz.func58 rfl Tryz.ntmps58 Tryz.results58 rfl ?_
 unfold qu at H
 refine fc<|fa<|Ea Z<|fb<|fc<|fa<|Ea Z<|fb<|?_
 refine fz (fun c a b => ∃ (B : SV) (s : ad1) (x : List (List Value)), [(1, (sv f)), (5, (sv B))] = c ∧ (.row (sv B) 5 1 x.flatten) :: G = b ∧ qt p1 s = some e ∧ RowR Ty.u8 a x s) ?_ ?_
 ·refine fc<|fa<|Em Z<|Eq Z (ge (T := Ty.i64) I rfl rfl)<|Em Z<|fb<|fB<|?_
  refine f8 (fun ag c a b => ∃ (q : SV) (o : ad1) (p : List (List Value)) (n : Int), [(1, (sv f)), (5, (sv q)), (12, (sv O)), (13, (Vi (p0.length : Int))), (14, (Vi n))] = c ∧ K = a ∧ (.row (sv q) 5 1 p.flatten) :: G = b ∧ lp2 (uM p1 p0) ag o n = some e ∧ RowR Ty.u8 a p o) BIG ?_ ?_
  ·have ap : RowR Ty.u8 K [] [] := RowR.nil
   exact Shift.nilRow 5 1<|Sd<|⟨_, by exact R5, fA, ([] : ad1), ([] : List (List Value)), 0, rfl, rfl, rfl, H, ap⟩
  rintro ag _ _ _ - ⟨q, o, p, n, rfl, rfl, rfl, H, U⟩
  obtain ⟨bd, bb, rfl, aA, H⟩ := jF H
  unfold uM at H
  refine fc<|fa<|Ec Z<|fb<|fc<|?_
  refine fm rfl ?_ ?_
  ·intro i
   obtain ⟨i, H⟩ := It i H
   refine ft<|fc<|fB<|fc<|fa<|?_
   obtain ⟨al, ac, H⟩ := bnd H
   obtain ⟨_, rfl, ax⟩ := Slr.at I ac
   refine Eq Z (Qi (T := Ty.i64) I ac Z)<|El (Vi al) Z (Rdc.k ax rfl)<|Ea Z<|fb<|fa<|Em Z<|Em Z<|?_
   obtain ⟨a0, aL, H⟩ := bnd H
   refine ff rfl (Ek Tryz.call88 Z (BD o q p al 10 a0 aL _ _ U hT) ?_)
   rintro _ _ _ - ⟨bi, bg, rfl, rfl, rfl, aG⟩
   have V : RowR Ty.u8 K [[(.int .u8 32)]] [32] := RowR.cons rfl (RowR.nil)
   refine ff rfl (gg (T := Ty.u8) (rows := [[(.int .u8 32)]]) (l := [32]) rfl rfl rfl V rfl rfl rfl rfl rfl rfl rfl rfl (fun bj => ?_))
   obtain ⟨a1, aM, H⟩ := bnd H
   refine ff rfl (gW (T := Ty.u8) (bytes := 1) rfl rfl rfl Mb1 aG (SrcT.row Mb0 V rfl) aM rfl rfl rfl rfl rfl rfl rfl rfl (fun aW aR aq => ⟨_, (.there .here), ?_⟩))
   refine Ow.shift (Re0 (Sd ?_))
   exact Ea Z<|fb<|fa<|Er (wI (n + 1)) Z<|Em Z<|fb<|Sd<|⟨_, by exact R5, _, Nat.lt_succ_self _, aW, a1, aR, (wI (n + 1)), rfl, rfl, rfl, (aA ▸ H), aq⟩
  ·intro i
   obtain ⟨i, H⟩ := If i H
   exact ga<|Sd<|⟨_, by exact R2, q, o, p, rfl, rfl, H, U⟩
 rintro _ a5 _ P ⟨B, s, x, rfl, rfl, H, ao⟩
 unfold qt at H
 refine fz (fun c a b => ∃ (N : SV) (L : ad1) (M : List (List Value)), [(5, (sv N))] = c ∧ (.row (sv N) 5 1 M.flatten) :: G = b ∧ uI L = some e ∧ RowR Ty.u8 a M L) ?_ ?_
 ·refine fc<|fa<|Em Z<|?_
  have Y := aC.mono P
  refine Eq Z (ge (T := fG) Y rfl rfl)<|Em Z<|fb<|fB<|?_
  refine f8 (fun ah c a b => ∃ (C : SV) (t : ad1) (y : List (List Value)) (d : Int), [(5, (sv C)), (24, (sv f)), (25, (Vi (p1.length : Int))), (26, (Vi d))] = c ∧ (.row (sv C) 5 1 y.flatten) :: G = b ∧ lp2 (uL p1) ah t d = some e ∧ RowR Ty.u8 a y t) BIG ?_ ?_
  ·exact Sd ⟨_, by exact R4, B, s, x, 0, rfl, rfl, H, ao⟩
  rintro ah _ F _ Q ⟨C, t, y, d, rfl, rfl, H, W⟩
  obtain ⟨be, ae, rfl, aB, H⟩ := jF H
  unfold uL at H
  refine fc<|fa<|Ec Z<|fb<|fc<|?_
  refine fm rfl ?_ ?_
  ·intro j
   obtain ⟨j, H⟩ := It j H
   refine ft ?_
   refine fz (fun c a b => ∃ (D : SV) (u : ad1) (z : List (List Value)), [(5, (sv D)), (24, (sv f)), (25, (Vi (p1.length : Int))), (26, (Vi d))] = c ∧ (.row (sv D) 5 1 z.flatten) :: G = b ∧ uJ p1 d ae u = some e ∧ RowR Ty.u8 a z u) ?_ ?_
   ·refine fB<|fc<|fa<|?_
    obtain ⟨g, ad, H⟩ := bnd H
    have aa := Y.mono Q
    obtain ⟨bf, aD, ay⟩ := Slr.at aa ad
    obtain ⟨E, rfl, J⟩ := aD
    refine Eq Z (Qi (T := fG) aa ad Z)<|EL 3 (fx g E) Z (Rdc.k ay rfl)<|?_
    refine ff rfl (fC (cs := (fx (fL.mk 0 [] false) fA)) rfl rfl rfl rfl (fun a6 => ?_))
    refine ff rfl (Sa (fx g E) Z .here Z ?_)
    refine fb<|fc<|?_
    obtain ⟨a2, aN, H⟩ := bnd H
    obtain ⟨am, aO, H⟩ := bnd H
    refine fq _ rfl (Ic Mb0 In0)<|Jm 0 Z<|JF 3 2 Z<|Jl 4 (.bool g.closed) Z (Rb0 Z)<|?_
    refine Ao 1 Z ?_
    have X : RowR Ty.u8 F [[(.int .u8 47)]] [47] := RowR.cons rfl (RowR.nil)
    refine gg (T := Ty.u8) (rows := [[(.int .u8 47)]]) (l := [47]) rfl rfl rfl X rfl rfl rfl rfl rfl rfl rfl rfl (fun bk => ⟨(Ic Mb1 In0), ?_⟩)
    refine Ao 2 Z ?_
    refine gW (T := Ty.u8) (bytes := 1) rfl rfl rfl Mb2 W (SrcT.row Mb0 X rfl) aN rfl rfl rfl rfl rfl rfl rfl rfl (fun aX aS av => ⟨_, (.there (.there .here)), ⟨(Ic Mb1 In0), ?_⟩⟩)
    refine Aw.shift (Re0 (Sd ⟨(Ic Mb0 In0), ?_⟩))
    refine Ao 5 Z ?_
    refine OpW.shift (Pu1 (Sd ?_))
    refine Ek Tryz.call89 Z (BE a2 aX aS g.closed am aO _ _ av) ?_
    rintro _ _ _ - ⟨aY, aT, rfl, rfl, rfl, aH⟩
    refine ⟨(Ic Mb1 In0), ?_⟩
    refine Ja 6 Z<|Ad<|fc<|fa<|EF 1 Z<|El (sv E) Z (Rb1 Z)<|Eq Z (ge (T := Ty.u64) J rfl rfl)<|Em Z<|fb<|fB<|?_
    refine f8 (fun af c a b => ∃ (A : SV) (r : ad1) (w : List (List Value)) (m : Int), [(5, (sv A)), (24, (sv f)), (25, (Vi (p1.length : Int))), (26, (Vi d)), (37, (sv E)), (38, (Vi (g.buffer.length : Int))), (39, (Vi m))] = c ∧ F = a ∧ (.row (sv A) 5 1 w.flatten) :: G = b ∧ lp2 (uK p1 d g ae) af r m = some e ∧ RowR Ty.u8 a w r) BIG ?_ ?_
    ·exact Re1<|Sd<|⟨_, by exact R7, aY, am, aT, 0, rfl, rfl, rfl, H, aH⟩
    rintro af _ _ _ - ⟨A, r, w, m, rfl, rfl, rfl, H, R⟩
    obtain ⟨bc, ba, rfl, az, H⟩ := jF H
    unfold uK at H
    refine fc<|fa<|Ec Z<|fb<|fc<|?_
    refine fm rfl ?_ ?_
    ·intro h
     obtain ⟨h, H⟩ := It h H
     refine ft<|fc<|fB<|fc<|fa<|?_
     obtain ⟨ai, ab, H⟩ := bnd H
     obtain ⟨_, rfl, aw⟩ := Slr.at J ab
     refine Eq Z (Qi (T := Ty.u64) J ab Z)<|El (.int .u64 ai) Z (Rdc.k aw rfl)<|Ea Z<|fb<|fa<|Em Z<|?_
     have S : RowR Ty.u8 F [[(.int .u8 32)]] [32] := RowR.cons rfl (RowR.nil)
     refine ff rfl (gg (T := Ty.u8) (rows := [[(.int .u8 32)]]) (l := [32]) rfl rfl rfl S rfl rfl rfl rfl rfl rfl rfl rfl (fun bh => ?_))
     obtain ⟨aZ, aI, H⟩ := bnd H
     refine ff rfl (gW (T := Ty.u8) (bytes := 1) rfl rfl rfl Mb1 R (SrcT.row Mb0 S rfl) aI rfl rfl rfl rfl rfl rfl rfl rfl (fun aU aP an => ⟨_, (.there .here), ?_⟩))
     refine Ow.shift (Re0 (Sd ?_))
     refine Em Z ?_
     obtain ⟨aj, aJ, H⟩ := bnd H
     have aE := (hT.mono P).mono Q
     refine ff rfl (Ek Tryz.call90 Z (BG aZ aU aP ai 10 aj aJ _ _ an aE) ?_)
     rintro _ _ _ - ⟨aV, aQ, rfl, rfl, rfl, aF⟩
     exact Ea Z<|fb<|fa<|Er (wI (m + 1)) Z<|Em Z<|fb<|Sd<|⟨_, by exact R7, _, Nat.lt_succ_self _, aV, aj, aQ, (wI (m + 1)), rfl, rfl, rfl, (az ▸ H), aF⟩
    ·intro h
     obtain ⟨h, H⟩ := If h H
     exact ga<|Sd<|⟨_, by exact R4, A, r, w, rfl, rfl, H, R⟩
   rintro _ a3 _ a8 ⟨D, u, z, rfl, rfl, H, au⟩
   unfold uJ at H
   exact fa<|Er (wI (d + 1)) Z<|Em Z<|fb<|Sd<|⟨_, by exact R4, _, Nat.lt_succ_self _, D, u, z, (wI (d + 1)), rfl, rfl, (aB ▸ H), au⟩
  ·intro j
   obtain ⟨j, H⟩ := If j H
   exact ga<|Sd<|⟨_, by exact R1, C, t, y, rfl, rfl, H, W⟩
 rintro _ a4 _ a9 ⟨N, L, M, rfl, rfl, H, ar⟩
 unfold uI at H
 refine fc<|fa<|Em Z<|?_
 obtain ⟨ak, aK, H⟩ := bnd H
 refine Eq Z (Bh Mb0 ar aK rfl rfl rfl rfl)<|Ea Z<|fb<|fy<|?_
 obtain a7 := gm H
 subst e
 refine ⟨(.inl rfl), [(.string ak)], ⟨(.string ak), _, rfl, rfl, rfl⟩, ?_⟩
 exact Re0<|Sd<|⟨rfl, rfl⟩
theorem zr (r : Nat) (B : af9) (j : SV) (f : Bool) (z : ad2) (h : Nat) (s : Array MapEntry) (y : Nat) (A : ae4) (i : SV) (w : List (List Value)) (p1 : ad1) (M : SV) (p2 : Int) (p3 : Int) (g : fw) (q : Bool) (H : tR B f z A p1 p2 p3 = some (g, q)) (K : Kp) (G : List Ent) (t : Slr (Ty.sl fX) K (sv j) B) (ak : MapR Ty.bool Value.string K s z) (al : RowR fW K w A) (u : Slr Ty.i64 K (sv M) p1) :
  Fc Tryz.prog 59 #[(Vp r), (sv M), (Vi p2), (Vi p3)] K ((.blk r 84 [(sv j), (.bool f), .nilFunc, (.map (some h)), (sv i)]) :: (.obj h (.map s y)) :: (.row (sv i) 67 6 w.flatten) :: G) (fun v l x => ∃ (N : SV) (O : SV), v = (.tuple #[(.agg (fl g N O).toArray), (.bool q)]) ∧ K = l ∧ (.blk r 84 [(sv j), (.bool f), .nilFunc, (.map (some h)), (sv i)]) :: (.obj h (.map s y)) :: (.row (sv i) 67 6 w.flatten) :: G = x ∧ Slr fV l (sv N) g.op.cases ∧ Slr Ty.i64 l (sv O) g.op.draws) := by
 refine fO Tryz.func59 rfl Tryz.ntmps59 Tryz.results59 rfl ?_
 unfold tR at H
 refine fc<|fa<|?_
 refine ff rfl (fC (cs := (fl (fw.mk (Op.mk 0 0 0 0 0 [] []) (Result.mk 0 0 0 false 0) 0 0) fA fA)) rfl rfl rfl rfl (fun C => ?_))
 refine Ea Z<|fb<|fc<|fc<|?_
 obtain ⟨ai, J, H⟩ := bnd H
 obtain ⟨aq, L, H⟩ := bnd H
 refine fq _ rfl (Ic Mb0 (Ic Mb1 (Ic Mb2 (Ic Mb3 In0))))<|Jm 0 Z<|Jm 1 Z<|?_
 obtain ⟨_, rfl, S⟩ := Slr.at u J
 refine Jq 2 Z (Qi (T := Ty.i64) u J Z)<|Jl 3 (Vi ai) Z (Rdc.k S rfl)<|Jm 4 Z<|Jq 5 Z (fD rfl)<|JF 6 0 Z<|Jl 7 (sv j) Z (Rb1 Z)<|Jm 8 Z<|?_
 obtain ⟨am, Y, U⟩ := Slr.at t L
 obtain ⟨af, rfl, ac⟩ := Y
 refine Jq 9 Z (Qi (T := (Ty.sl fX)) t L Z)<|Jl 10 (sv af) Z (Rdc.k U rfl)<|Jq 11 Z (ge (T := fX) ac rfl rfl)<|Jc 12 Z<|Ad<|?_
 refine fm rfl ?_ ?_
 ·intro m
  obtain ⟨m, H⟩ := It m H
  refine fc<|fa<|Eq Z (fF (cs := (fl (fw.mk (Op.mk 0 0 0 0 0 [] []) (Result.mk 0 0 0 false 0) 0 0) fA fA)) rfl rfl rfl rfl rfl rfl)<|?_
  refine ff rfl (Sa (fl (fw.mk (Op.mk 0 0 0 0 0 [] []) (Result.mk 0 0 0 false 0) 0 0) fA fA) Z .here Z ?_)
  refine Ea Z<|fb<|fy<|?_
  obtain ⟨Q, R⟩ := hX H
  subst g q
  refine ⟨(.inl rfl), [(.agg (fl (fw.mk (Op.mk 0 0 0 0 0 [] []) (Result.mk 0 0 0 false 0) 0 0) fA fA).toArray), (.bool false)], ⟨(.agg (fl (fw.mk (Op.mk 0 0 0 0 0 [] []) (Result.mk 0 0 0 false 0) 0 0) fA fA).toArray), _, rfl, ⟨_, 14, (fl (fw.mk (Op.mk 0 0 0 0 0 [] []) (Result.mk 0 0 0 false 0) 0 0) fA fA), rfl, rfl, rfl, rfl, ⟨rfl, Rb0 Z⟩, rfl⟩, ⟨(.bool false), _, rfl, rfl, rfl⟩⟩, ?_⟩
  exact Pu3<|Pu3<|Pu3<|Re3<|Sd<|⟨fA, fA, rfl, rfl, rfl, (Slr.nil fV _), (Slr.nil Ty.i64 _)⟩
 ·intro m
  obtain ⟨m, H⟩ := If m H
  refine ft<|fc<|?_
  obtain ⟨ap, E, H⟩ := bnd H
  obtain ⟨ah, F, H⟩ := bnd H
  obtain ⟨a, I, H⟩ := bnd H
  refine fq _ rfl (Ic Mb0 (Ic Mb1 (Ic Mb2 (Ic Mb3 In0))))<|Jm 0 Z<|Jq 1 Z (fD rfl)<|JF 2 0 Z<|Jl 3 (sv j) Z (Rb1 Z)<|Jm 4 Z<|?_
  obtain ⟨an, aa, V⟩ := Slr.at t E
  obtain ⟨ag, rfl, D⟩ := aa
  refine Jq 5 Z (Qi (T := (Ty.sl fX)) t E Z)<|Jl 6 (sv ag) Z (Rdc.k V rfl)<|Jm 7 Z<|Jm 8 Z<|?_
  obtain ⟨_, rfl, W⟩ := Slr.at u F
  refine Jq 9 Z (Qi (T := Ty.i64) u F Z)<|Jl 10 (Vi ah) Z (Rdc.k W rfl)<|?_
  obtain ⟨ao, ab, X⟩ := Slr.at D I
  obtain ⟨b, c, rfl, ad, ae⟩ := ab
  refine Jq 11 Z (Qi (T := fX) D I Z)<|JL 12 14 (fl a b c) Z (Rdc.k X rfl)<|?_
  refine Ao 13 Z ?_
  refine fC (cs := (fl (fw.mk (Op.mk 0 0 0 0 0 [] []) (Result.mk 0 0 0 false 0) 0 0) fA fA)) rfl rfl rfl rfl (fun aj => ⟨(Ic Mb1 (Ic Mb2 (Ic Mb3 (Ic Mb4 In0)))), ?_⟩)
  refine Ao 14 Z ?_
  refine Sa (fl a b c) Z .here Z ⟨(Ic Mb1 (Ic Mb2 (Ic Mb3 (Ic Mb4 In0)))), ?_⟩
  refine Ad ?_
  refine fz (fun P l x => ∃ (p : Bool), [(8, (Vp C)), (9, (.bool p))] = P ∧ K = l ∧ (.blk r 84 [(sv j), (.bool f), .nilFunc, (.map (some h)), (sv i)]) :: (.blk C 120 (fl a b c)) :: (.obj h (.map s y)) :: (.row (sv i) 67 6 w.flatten) :: G = x ∧ rU B f A a z p = some (g, q)) ?_ ?_
  ·rcases gQ (dcd (a.called < p3)) with o | o <;> revert o
   ·intro e
    obtain ⟨e, H⟩ := It e H
    rcases gQ f with o | o <;> revert o
    ·intro n
     have H := ift n H
     refine fq _ rfl (Ic Mb0 (Ic Mb2 (Ic Mb3 (Ic Mb4 In0))))<|JL 0 14 (fl a b c) Z (Rb0 Z)<|JF 1 12 Z<|Jl 2 (Vi a.called) Z (Rb0 Z)<|Jm 3 Z<|Jc 4 Z<|Jm 5 Z<|Aw.known (d := 43) rfl (hZ e)<|Bm 6 Z<|Bq 7 Z (fD rfl)<|BF 8 1 Z<|Bl 9 (.bool f) Z (Rb1 Z)<|Bm 10 Z<|Aw.known (d := 48) rfl (n)<|Jz 11 Z<|Jz 12 Z<|Jz 13 Z<|Bt 14 Z<|Jt 15 Z<|?_
     refine Ao 16 Z ?_
     refine Sa (fl a b c) Z (.there .here) Z ⟨(Ic Mb0 (Ic Mb2 (Ic Mb3 (Ic Mb4 In0)))), ?_⟩
     exact Ja 17 Z<|Ad<|Pu4<|Pu4<|Pu3<|Pu4<|Re4<|Sd<|⟨_, by exact R2, true, rfl, rfl, rfl, H⟩
    ·intro n
     have H := f0 (btf n) H
     refine fq _ rfl (Ic Mb0 (Ic Mb2 (Ic Mb3 (Ic Mb4 In0))))<|JL 0 14 (fl a b c) Z (Rb0 Z)<|JF 1 12 Z<|Jl 2 (Vi a.called) Z (Rb0 Z)<|Jm 3 Z<|Jc 4 Z<|Jm 5 Z<|Aw.known (d := 43) rfl (hZ e)<|Bm 6 Z<|Bq 7 Z (fD rfl)<|BF 8 1 Z<|Bl 9 (.bool f) Z (Rb1 Z)<|Bm 10 Z<|Aw.known (d := 48) rfl (n)<|BF 11 13 Z<|Bl 12 (Vi a.coming) Z (Rb0 Z)<|Bc 13 Z<|Bf 14 Z<|Jt 15 Z<|?_
     refine Ao 16 Z ?_
     refine Sa (fl a b c) Z (.there .here) Z ⟨(Ic Mb0 (Ic Mb2 (Ic Mb3 (Ic Mb4 In0)))), ?_⟩
     exact Ja 17 Z<|Ad<|Pu4<|Pu4<|Pu3<|Pu4<|Re4<|Sd<|⟨_, by exact R2, (dcd (a.coming ≥ 0)), rfl, rfl, rfl, H⟩
   ·intro e
    obtain ⟨e, H⟩ := If e H
    refine fq _ rfl (Ic Mb0 (Ic Mb2 (Ic Mb3 (Ic Mb4 In0))))<|JL 0 14 (fl a b c) Z (Rb0 Z)<|JF 1 12 Z<|Jl 2 (Vi a.called) Z (Rb0 Z)<|Jm 3 Z<|Jc 4 Z<|Jm 5 Z<|Aw.known (d := 43) rfl (io e)<|Jz 6 Z<|Jz 7 Z<|Jz 8 Z<|Jz 9 Z<|Jz 10 Z<|gI 11 rfl (by kernel_rfl) (by kernel_rfl) (by kernel_rfl) rfl rfl rfl rfl rfl<|gI 12 rfl (by kernel_rfl) (by kernel_rfl) (by kernel_rfl) rfl rfl rfl rfl rfl<|gI 13 rfl (by kernel_rfl) (by kernel_rfl) (by kernel_rfl) rfl rfl rfl rfl rfl<|Jz 14 Z<|Jf 15 Z<|?_
    refine Ao 16 Z ?_
    refine Sa (fl a b c) Z (.there .here) Z ⟨(Ic Mb0 (Ic Mb2 (Ic Mb3 (Ic Mb4 In0)))), ?_⟩
    exact Ja 17 Z<|Ad<|Pu4<|Pu4<|Pu3<|Pu4<|Re4<|Sd<|⟨_, by exact R2, false, rfl, rfl, rfl, H⟩
  rintro _ _ _ - ⟨p, rfl, rfl, rfl, H⟩
  unfold rU at H
  refine fy ?_
  obtain ⟨Q, R⟩ := hX H
  subst g q
  refine ⟨(.inl rfl), [(.agg (fl a b c).toArray), (.bool p)], ⟨(.agg (fl a b c).toArray), _, rfl, ⟨_, 14, (fl a b c), rfl, rfl, rfl, rfl, ⟨rfl, Rb1 Z⟩, rfl⟩, ⟨(.bool p), _, rfl, rfl, rfl⟩⟩, ?_⟩
  exact Pu3<|Pu3<|Pu2<|Re3<|Sd<|⟨b, c, rfl, rfl, rfl, ad, ae⟩
end Go.Hx
namespace Go.Hx
open Go Go.Proofs
set_option maxRecDepth 10000
set_option maxHeartbeats 1000000
theorem wn (p0 : Op) (f : SV) (g : SV) (d : Case) (e : Bool) (H : rW p0 = some (d, e)) (K : Kp) (G : List Ent) (u : Slr fV K (sv f) p0.cases) (w : Slr Ty.i64 K (sv g) p0.draws) :
  Fc Tryz.prog 117 #[(.agg (fj p0 f g).toArray)] K (G) (fun v i h => v = (.tuple #[(.agg (fk d).toArray), (.bool e)]) ∧ K = i ∧ G = h) := by
 refine fO Tryz.func117 rfl Tryz.ntmps117 Tryz.results117 rfl ?_
 unfold rW at H
 refine fc<|fa<|?_
 refine ff rfl (fU (cs := (fj p0 f g)) rfl rfl rfl (fun p => ?_))
 refine ff rfl (fC (cs := (fk (Case.mk false 0 0))) rfl rfl rfl rfl (fun q => ?_))
 refine Ea Z<|fb<|fc<|fc<|fa<|EF 0 Z<|El (Vi p0.kind) Z (Rb1 Z)<|fb<|fB<|?_
 refine fz (fun r i h => ∃ (o : Bool) (k : Int) (l : Int) (a : Int) (m : Int) (b : Int) (i32 : Int) (n : Int), [(1, (Vp p)), (2, (Vp q)), (6, (.bool o))] = r ∧ K = i ∧ (.blk q 108 (fk (Case.mk false k l))) :: (.blk p 51 (fj (Op.mk a m b i32 n p0.cases p0.draws) f g)) :: G = h ∧ qw p0 o k l a m b i32 n = some (d, e)) ?_ ?_
 ·refine fc<|fa<|Ec Z<|Ea Z<|fb<|?_
  refine fm rfl ?_ ?_
  ·intro c
   obtain ⟨c, H⟩ := It c H
   exact ft<|Pu1<|Pu1<|Sd<|⟨_, by exact R3, (dcd (p0.kind = 1)), 0, 0, p0.kind, p0.mode, p0.channel, p0.value, p0.deadline, rfl, rfl, rfl, H⟩
  ·intro c
   obtain ⟨c, H⟩ := If c H
   exact fa<|Ec Z<|Ea Z<|fb<|Pu1<|Pu1<|Sd<|⟨_, by exact R3, (dcd (p0.kind = 2)), 0, 0, p0.kind, p0.mode, p0.channel, p0.value, p0.deadline, rfl, rfl, rfl, H⟩
 rintro _ _ _ - ⟨o, k, l, a, m, b, i32, n, rfl, rfl, rfl, H⟩
 unfold qw at H
 refine fm rfl ?_ ?_
 ·intro j
  have H := ift j H
  refine fc<|fa<|EF 0 Z<|El (Vi a) Z (Rb1 Z)<|Ec Z<|EF 2 Z<|El (Vi b) Z (Rb1 Z)<|EF 3 Z<|El (.int .u64 i32) Z (Rb1 Z)<|Eq Z (fF (cs := (fk (Case.mk (dcd (a = 1)) b i32))) rfl rfl rfl rfl rfl rfl)<|?_
  refine ff rfl (Sa (fk (Case.mk (dcd (a = 1)) b i32)) Z .here Z ?_)
  refine Ea Z<|fb<|fy<|?_
  obtain ⟨s, t⟩ := hX H
  subst d e
  refine ⟨(.inl rfl), [(.agg (fk (Case.mk (dcd (a = 1)) b i32)).toArray), (.bool true)], ⟨(.agg (fk (Case.mk (dcd (a = 1)) b i32)).toArray), _, rfl, ⟨_, 3, (fk (Case.mk (dcd (a = 1)) b i32)), rfl, rfl, rfl, rfl, ⟨rfl, Rb0 Z⟩, rfl⟩, ⟨(.bool true), _, rfl, rfl, rfl⟩⟩, ?_⟩
  exact Re0<|Re0<|Sd<|⟨rfl, rfl, rfl⟩
 ·intro j
  have H := f0 (btf j) H
  refine ft<|fc<|fa<|Eq Z (fF (cs := (fk (Case.mk false 0 0))) rfl rfl rfl rfl rfl rfl)<|?_
  refine ff rfl (Sa (fk (Case.mk false 0 0)) Z .here Z ?_)
  refine Ea Z<|fb<|fy<|?_
  obtain ⟨s, t⟩ := hX H
  subst d e
  refine ⟨(.inl rfl), [(.agg (fk (Case.mk false 0 0)).toArray), (.bool false)], ⟨(.agg (fk (Case.mk false 0 0)).toArray), _, rfl, ⟨_, 3, (fk (Case.mk false 0 0)), rfl, rfl, rfl, rfl, ⟨rfl, Rb0 Z⟩, rfl⟩, ⟨(.bool false), _, rfl, rfl, rfl⟩⟩, ?_⟩
  exact Re0<|Re0<|Sd<|⟨rfl, rfl, rfl⟩
end Go.Hx
namespace Go.Hx
open Go Go.Proofs
set_option maxRecDepth 10000
set_option maxHeartbeats 1000000
theorem wo (p0 : Op) (a : SV) (d : SV) (p1 : Int) (e : Case) (f : Bool) (H : rX p0 p1 = some (e, f)) (K : Kp) (G : List Ent) (i : Slr fV K (sv a) p0.cases) (E : Slr Ty.i64 K (sv d) p0.draws) :
  Fc Tryz.prog 91 #[(.agg (fj p0 a d).toArray), (Vi p1)] K (G) (fun v l j => v = (.tuple #[(.agg (fk e).toArray), (.bool f)]) ∧ K = l ∧ G = j) := by
 refine fO Tryz.func91 rfl Tryz.ntmps91 Tryz.results91 rfl ?_
 unfold rX at H
 refine fc<|fa<|?_
 refine ff rfl (fU (cs := (fj p0 a d)) rfl rfl rfl (fun b25 => ?_))
 refine ff rfl (fC (cs := (fk (Case.mk false 0 0))) rfl rfl rfl rfl (fun y => ?_))
 refine Ea Z<|fb<|fc<|fc<|fa<|EL 7 (fj p0 a d) Z (Rb1 Z)<|?_
 obtain ⟨c, I, F, H⟩ := ix H
 refine ff rfl (Ek Tryz.call117 Z (wn p0 a d c I F _ _ i E) ?_)
 rintro _ _ _ - ⟨rfl, rfl, rfl⟩
 refine Em Z<|Ex Z<|Ex Z<|?_
 refine ff rfl (fC (cs := (fk (Case.mk false 0 0))) rfl rfl rfl rfl (fun J => ?_))
 refine ff rfl (Sa (fk c) Z .here Z ?_)
 refine Ea Z<|fb<|fc<|fa<|Em Z<|fb<|?_
 refine fm rfl ?_ ?_
 ·intro m
  have H := ift m H
  refine fc<|fa<|EL 3 (fk c) Z (Rb0 Z)<|Em Z<|Ec Z<|?_
  refine ff rfl (Sa (fk c) Z (.there .here) Z ?_)
  refine Ea Z<|fb<|fy<|?_
  obtain ⟨z, A⟩ := hX H
  subst e f
  refine ⟨(.inl rfl), [(.agg (fk c).toArray), (.bool (dcd (p1 = (-1))))], ⟨(.agg (fk c).toArray), _, rfl, ⟨_, 3, (fk c), rfl, rfl, rfl, rfl, ⟨rfl, Rb1 Z⟩, rfl⟩, ⟨(.bool (dcd (p1 = (-1)))), _, rfl, rfl, rfl⟩⟩, ?_⟩
  exact Re0<|Re0<|Re0<|Sd<|⟨rfl, rfl, rfl⟩
 ·intro m
  have H := f0 (btf m) H
  refine ft<|fc<|?_
  refine fz (fun C l j => ∃ (o : Int) (x : Bool) (p : Int) (q : Int) (r : Int) (s : Int) (t : Int) (u : Int) (w : Int), [(1, (Vi o)), (2, (Vp b25)), (4, (Vp y)), (30, (.bool x))] = C ∧ K = l ∧ (.blk y 108 (fk (Case.mk false p q))) :: (.blk b25 51 (fj (Op.mk r s t u w p0.cases p0.draws) a d)) :: G = j ∧ tU p0 o x p q r s t u w = some (e, f)) ?_ ?_
  ·refine fa<|EF 0 Z<|El (Vi p0.kind) Z (Rb2 Z)<|Ec Z<|Em Z<|?_
   refine Ee Z ?_ ?_
   ·intro b
    have b := ky (ir (b))
    have H := f0 b H
    exact Ez Z<|Ez Z<|Et Z<|Em Z<|Ez Z<|Ez Z<|Ez Z<|Ez Z<|Ez Z<|Et Z<|fb<|Pu2<|Pu2<|Re2<|Sd<|⟨_, by exact R4, p1, true, 0, 0, p0.kind, p0.mode, p0.channel, p0.value, p0.deadline, rfl, rfl, rfl, H⟩
   ·intro b
    have b := kz (iq (b))
    have H := ift b H
    refine Vm Z<|Vc Z<|Ef Z<|Em Z<|?_
    refine Ee Z ?_ ?_
    ·intro g
     obtain ⟨g, H⟩ := It g H
     exact Ez Z<|Ez Z<|Ez Z<|Ez Z<|Ez Z<|Et Z<|fb<|Pu2<|Pu2<|Re2<|Sd<|⟨_, by exact R4, p1, true, 0, 0, p0.kind, p0.mode, p0.channel, p0.value, p0.deadline, rfl, rfl, rfl, H⟩
    ·intro g
     obtain ⟨g, H⟩ := If g H
     exact Vm Z<|VF 5 Z<|Vl (sv a) Z (Rb2 Z)<|Vq Z (ge (T := fV) i rfl rfl)<|Vc Z<|Ef Z<|fb<|Pu2<|Pu2<|Re2<|Sd<|⟨_, by exact R4, p1, (dcd (p1 ≥ (p0.cases.length : Int))), 0, 0, p0.kind, p0.mode, p0.channel, p0.value, p0.deadline, rfl, rfl, rfl, H⟩
  rintro _ _ _ - ⟨o, x, p, q, r, s, t, u, w, rfl, rfl, rfl, H⟩
  unfold tU at H
  refine fm rfl ?_ ?_
  ·intro n
   have H := ift n H
   refine fc<|fa<|Eq Z (fF (cs := (fk (Case.mk false 0 0))) rfl rfl rfl rfl rfl rfl)<|?_
   refine ff rfl (Sa (fk (Case.mk false 0 0)) Z .here Z ?_)
   refine Ea Z<|fb<|fy<|?_
   obtain ⟨z, A⟩ := hX H
   subst e f
   refine ⟨(.inl rfl), [(.agg (fk (Case.mk false 0 0)).toArray), (.bool false)], ⟨(.agg (fk (Case.mk false 0 0)).toArray), _, rfl, ⟨_, 3, (fk (Case.mk false 0 0)), rfl, rfl, rfl, rfl, ⟨rfl, Rb0 Z⟩, rfl⟩, ⟨(.bool false), _, rfl, rfl, rfl⟩⟩, ?_⟩
   exact Re0<|Re0<|Sd<|⟨rfl, rfl, rfl⟩
  ·intro n
   have H := f0 (btf n) H
   refine ft<|fc<|fa<|EF 5 Z<|El (sv a) Z (Rb1 Z)<|Em Z<|?_
   obtain ⟨h, B, H⟩ := bnd H
   obtain ⟨_, rfl, D⟩ := Slr.at i B
   refine Eq Z (Qi (T := fV) i B Z)<|EL 3 (fk h) Z (Rdc.k D rfl)<|?_
   refine ff rfl (Sa (fk h) Z .here Z ?_)
   refine Ea Z<|fb<|fy<|?_
   obtain ⟨z, A⟩ := hX H
   subst e f
   refine ⟨(.inl rfl), [(.agg (fk h).toArray), (.bool true)], ⟨(.agg (fk h).toArray), _, rfl, ⟨_, 3, (fk h), rfl, rfl, rfl, rfl, ⟨rfl, Rb0 Z⟩, rfl⟩, ⟨(.bool true), _, rfl, rfl, rfl⟩⟩, ?_⟩
   exact Re0<|Re0<|Sd<|⟨rfl, rfl, rfl⟩
theorem m7 (p0 : ad0) (n : SV) (p1 : Int) (b : fL) (e : Bool) (H : mJ p0 p1 = some (b, e)) (K : Kp) (G : List Ent) (i : Slr fG K (sv n) p0) :
  Fc Tryz.prog 92 #[(sv n), (Vi p1)] K (G) (fun v f g => ∃ (q : SV), v = (.tuple #[(.agg (fx b q).toArray), (.bool e)]) ∧ K = f ∧ G = g ∧ Slr Ty.u64 f (sv q) b.buffer) := by
 refine fO Tryz.func92 rfl Tryz.ntmps92 Tryz.results92 rfl ?_
 unfold mJ at H
 refine fc<|fa<|?_
 refine ff rfl (fC (cs := (fx (fL.mk 0 [] false) fA)) rfl rfl rfl rfl (fun o => ?_))
 refine Ea Z<|fb<|fc<|?_
 refine fz (fun r f g => ∃ (j : Int) (m : Bool) (l : Int), [(0, (sv n)), (1, (Vi j)), (4, (Vp o)), (13, (.bool m))] = r ∧ K = f ∧ (.blk o 104 (fx (fL.mk l [] false) fA)) :: G = g ∧ qx p0 j m l = some (b, e)) ?_ ?_
 ·refine fa<|Em Z<|Ec Z<|Em Z<|?_
  refine Ee Z ?_ ?_
  ·intro c
   obtain ⟨c, H⟩ := It c H
   exact Ez Z<|Ez Z<|Ez Z<|Ez Z<|Et Z<|fb<|Sd<|⟨_, by exact R4, p1, true, 0, rfl, rfl, rfl, H⟩
  ·intro c
   obtain ⟨c, H⟩ := If c H
   exact Vm Z<|Vm Z<|Vq Z (ge (T := fG) i rfl rfl)<|Vc Z<|Ef Z<|fb<|Sd<|⟨_, by exact R4, p1, (dcd (p1 ≥ (p0.length : Int))), 0, rfl, rfl, rfl, H⟩
 rintro _ _ _ - ⟨j, m, l, rfl, rfl, rfl, H⟩
 unfold qx at H
 refine fm rfl ?_ ?_
 ·intro h
  have H := ift h H
  refine fc<|fa<|Eq Z (fF (cs := (fx (fL.mk 0 [] false) fA)) rfl rfl rfl rfl rfl rfl)<|?_
  refine ff rfl (Sa (fx (fL.mk 0 [] false) fA) Z .here Z ?_)
  refine Ea Z<|fb<|fy<|?_
  obtain ⟨s, t⟩ := hX H
  subst b e
  refine ⟨(.inl rfl), [(.agg (fx (fL.mk 0 [] false) fA).toArray), (.bool false)], ⟨(.agg (fx (fL.mk 0 [] false) fA).toArray), _, rfl, ⟨_, 3, (fx (fL.mk 0 [] false) fA), rfl, rfl, rfl, rfl, ⟨rfl, Rb0 Z⟩, rfl⟩, ⟨(.bool false), _, rfl, rfl, rfl⟩⟩, ?_⟩
  exact Re0<|Sd<|⟨fA, rfl, rfl, rfl, (Slr.nil Ty.u64 _)⟩
 ·intro h
  have H := f0 (btf h) H
  refine ft<|fc<|fa<|Em Z<|Em Z<|?_
  obtain ⟨d, p, H⟩ := bnd H
  obtain ⟨r28, w, u⟩ := Slr.at i p
  obtain ⟨a, rfl, x⟩ := w
  refine Eq Z (Qi (T := fG) i p Z)<|EL 3 (fx d a) Z (Rdc.k u rfl)<|?_
  refine ff rfl (Sa (fx d a) Z .here Z ?_)
  refine Ea Z<|fb<|fy<|?_
  obtain ⟨s, t⟩ := hX H
  subst b e
  refine ⟨(.inl rfl), [(.agg (fx d a).toArray), (.bool true)], ⟨(.agg (fx d a).toArray), _, rfl, ⟨_, 3, (fx d a), rfl, rfl, rfl, rfl, ⟨rfl, Rb0 Z⟩, rfl⟩, ⟨(.bool true), _, rfl, rfl, rfl⟩⟩, ?_⟩
  exact Re0<|Sd<|⟨a, rfl, rfl, rfl, x⟩
theorem Ci (p0 : fL) (b : SV) (c : Bool) (H : uN p0 = some c) (K : Kp) (G : List Ent) (g : Slr Ty.u64 K (sv b) p0.buffer) :
  Fc Tryz.prog 93 #[(.agg (fx p0 b).toArray)] K (G) (fun v e d => v = (.bool c) ∧ K = e ∧ G = d) := by
 refine fO Tryz.func93 rfl Tryz.ntmps93 Tryz.results93 rfl ?_
 unfold uN at H
 refine fc<|fa<|?_
 refine ff rfl (fU (cs := (fx p0 b)) rfl rfl rfl (fun b3 => ?_))
 refine Ea Z<|fb<|fc<|fa<|EF 2 Z<|El (.bool p0.closed) Z (Rb0 Z)<|Eq Z (gd rfl)<|Em Z<|?_
 refine Ee Z ?_ ?_
 ·intro a
  have a := ir a
  have H := f0 (btf a) H
  refine VF 1 Z<|Vl (sv b) Z (Rb0 Z)<|Vq Z (ge (T := Ty.u64) g rfl rfl)<|VF 0 Z<|Vl (Vi p0.capacity) Z (Rb0 Z)<|Vc Z<|Et Z<|Ea Z<|fb<|fy<|?_
  obtain f := gm H
  subst c
  refine ⟨(.inl rfl), [(.bool (dcd ((p0.buffer.length : Int) < p0.capacity)))], ⟨(.bool (dcd ((p0.buffer.length : Int) < p0.capacity))), _, rfl, rfl, rfl⟩, ?_⟩
  exact Re0<|Sd<|⟨rfl, rfl, rfl⟩
 ·intro a
  have a := iq a
  have H := ift a H
  refine Ez Z<|Ez Z<|Ez Z<|Ez Z<|Ez Z<|Ez Z<|Ef Z<|Ea Z<|fb<|fy<|?_
  obtain f := gm H
  subst c
  refine ⟨(.inl rfl), [(.bool false)], ⟨(.bool false), _, rfl, rfl, rfl⟩, ?_⟩
  exact Re0<|Sd<|⟨rfl, rfl, rfl⟩
end Go.Hx
namespace Go.Hx
open Go Go.Proofs
set_option maxRecDepth 10000
set_option maxHeartbeats 1000000
theorem sQ (p0 : ad1) (g : SV) (a : ad1) (H : qy p0 = some a) (K : Kp) (G : List Ent) (e : Slr Ty.u64 K (sv g) p0) :
  Fc Tryz.prog 94 #[(sv g)] K (G) (fun v c i => ∃ (h : SV) (f : List (List Value)), v = (sv h) ∧ K = c ∧ (.row (sv h) 36 1 f.flatten) :: G = i ∧ RowR Ty.u64 c f a) := by
 refine fO Tryz.func94 rfl Tryz.ntmps94 Tryz.results94 rfl ?_
 unfold qy at H
 refine fc<|fa<|Ea Z<|fb<|fc<|fc<|fa<|Em Z<|Eq Z (oL rfl rfl rfl)<|fb<|?_
 refine fm rfl ?_ ?_
 ·intro d
  have n := Slr.nil_of e d
  have H : some [] = some a := by rw [n] at H; simpa [app] using H
  refine fc<|fa<|Ea Z<|fb<|fy<|?_
  obtain j := gm H
  subst a
  refine ⟨(.inl rfl), [(sv fA)], ⟨(sv fA), _, rfl, rfl, rfl⟩, ?_⟩
  have k : RowR Ty.u64 K [] [] := RowR.nil
  exact Shift.nilRow 36 1<|Sd<|⟨fA, ([] : List (List Value)), rfl, rfl, rfl, k⟩
 ·intro d
  refine ft<|fc<|fa<|?_
  have l : RowR Ty.u64 K [] [] := RowR.nil
  refine ff rfl (yQ (T := Ty.u64) rfl rfl rfl rfl rfl (fun q => ?_))
  refine Em Z ?_
  obtain ⟨r, o, H⟩ := bnd H
  refine ff rfl (gW (T := Ty.u64) (bytes := 8) rfl rfl rfl Mb0 l (SrcT.sl e) o rfl rfl rfl rfl rfl rfl rfl rfl (fun b p m => ⟨_, .here, ?_⟩))
  refine Ea Z<|fb<|fy<|?_
  obtain j := gm H
  subst a
  refine ⟨(.inl rfl), [(sv b)], ⟨(sv b), _, rfl, rfl, rfl⟩, ?_⟩
  exact Sd ⟨b, p, rfl, rfl, rfl, m⟩
theorem BI (p0 : ad0) (g : SV) (a : ad0) (H : qz p0 = some a) (K : Kp) (G : List Ent) (e : Slr fG K (sv g) p0) :
  Fc Tryz.prog 118 #[(sv g)] K (G) (fun v c i => ∃ (h : SV) (f : List (List Value)), v = (sv h) ∧ K = c ∧ (.row (sv h) 104 3 f.flatten) :: G = i ∧ RowR fG c f a) := by
 refine fO Tryz.func118 rfl Tryz.ntmps118 Tryz.results118 rfl ?_
 unfold qz at H
 refine fc<|fa<|Ea Z<|fb<|fc<|fc<|fa<|Em Z<|Eq Z (oL rfl rfl rfl)<|fb<|?_
 refine fm rfl ?_ ?_
 ·intro d
  have n := Slr.nil_of e d
  have H : some [] = some a := by rw [n] at H; simpa [app] using H
  refine fc<|fa<|Ea Z<|fb<|fy<|?_
  obtain j := gm H
  subst a
  refine ⟨(.inl rfl), [(sv fA)], ⟨(sv fA), _, rfl, rfl, rfl⟩, ?_⟩
  have k : RowR fG K [] [] := RowR.nil
  exact Shift.nilRow 104 3<|Sd<|⟨fA, ([] : List (List Value)), rfl, rfl, rfl, k⟩
 ·intro d
  refine ft<|fc<|fa<|?_
  have l : RowR fG K [] [] := RowR.nil
  refine ff rfl (yQ (T := fG) rfl rfl rfl rfl rfl (fun q => ?_))
  refine Em Z ?_
  obtain ⟨r, o, H⟩ := bnd H
  refine ff rfl (gW (T := fG) (bytes := 40) rfl rfl rfl Mb0 l (SrcT.sl e) o rfl rfl rfl rfl rfl rfl rfl rfl (fun b p m => ⟨_, .here, ?_⟩))
  refine Ea Z<|fb<|fy<|?_
  obtain j := gm H
  subst a
  refine ⟨(.inl rfl), [(sv b)], ⟨(sv b), _, rfl, rfl, rfl⟩, ?_⟩
  exact Sd ⟨b, p, rfl, rfl, rfl, m⟩
end Go.Hx
namespace Go.Hx
open Go Go.Proofs
set_option maxRecDepth 10000
set_option maxHeartbeats 1000000
theorem wh (p0 : ad0) (e : SV) (p1 : Int) (p2 : fL) (a : SV) (f : ad0) (H : lZ p0 p1 p2 = some f) (K : Kp) (G : List Ent) (m : Slr fG K (sv e) p0) (n : Slr Ty.u64 K (sv a) p2.buffer) :
  Fc Tryz.prog 95 #[(sv e), (Vi p1), (.agg (fx p2 a).toArray)] K (G) (fun v g k => ∃ (j : SV) (i : List (List Value)), v = (sv j) ∧ K = g ∧ (.row (sv j) 104 3 i.flatten) :: G = k ∧ RowR fG g i f) := by
 refine fO Tryz.func95 rfl Tryz.ntmps95 Tryz.results95 rfl ?_
 unfold lZ at H
 refine fc<|fa<|?_
 refine ff rfl (fU (cs := (fx p2 a)) rfl rfl rfl (fun r => ?_))
 refine Ea Z<|fb<|fc<|fa<|Em Z<|?_
 obtain ⟨x17, p, H⟩ := bnd H
 refine ff rfl (Ek Tryz.call118 Z (BI p0 e x17 p _ _ m) ?_)
 rintro _ _ _ - ⟨d, q, rfl, rfl, rfl, b⟩
 refine Ea Z<|fb<|fc<|fa<|Em Z<|Em Z<|EL 3 (fx p2 a) Z (Rb1 Z)<|?_
 obtain ⟨y, h, H⟩ := bnd H
 obtain ⟨w, c, o⟩ := RowR.at b h
 obtain ⟨x, rfl, u⟩ := o
 refine Eq Z (gy (T := fG) Mb0 b c (fK h).1 rfl rfl rfl rfl rfl) ?_
 refine ff rfl (gV (T := fG) (vs := (fx p2 a)) (r' := (fx p2 a)) (l' := (f6 x17 p1 p2)) rfl rfl rfl rfl rfl .here b c rfl rfl rfl (RowR.set p1 b ⟨a, rfl, n⟩) (fun l => ?_))
 have t := iV c (v := (fx p2 a))
 refine fb<|fc<|fa<|Em Z<|Ea Z<|fb<|fy<|?_
 obtain s := gm H
 subst f
 refine ⟨(.inl rfl), [(sv d)], ⟨(sv d), _, rfl, rfl, rfl⟩, ?_⟩
 exact Re1<|Sd<|⟨d, (q.set p1.toNat (fx p2 a)), rfl, rfl, rfl, l⟩
theorem zt (p0 : Op) (a : SV) (b : SV) (c : af2) (H : tV p0 = some c) (K : Kp) (G : List Ent) (g : Slr fV K (sv a) p0.cases) (m : Slr Ty.i64 K (sv b) p0.draws) :
  Fc Tryz.prog 97 #[(.agg (fj p0 a b).toArray)] K (G) (fun v j i => ∃ (h : SV), v = (sv h) ∧ G = i ∧ Slr fV j (sv h) c) := by
 refine fO Tryz.func97 rfl Tryz.ntmps97 Tryz.results97 rfl ?_
 unfold tV at H
 refine fc<|fa<|?_
 refine ff rfl (fU (cs := (fj p0 a b)) rfl rfl rfl (fun r => ?_))
 refine Ea Z<|fb<|fc<|fc<|fa<|EL 7 (fj p0 a b) Z (Rb0 Z)<|?_
 obtain ⟨x17, x18, o, H⟩ := ix H
 refine ff rfl (Ek Tryz.call117 Z (wn p0 a b x17 x18 o _ _ g m) ?_)
 rintro _ _ _ - ⟨rfl, rfl, rfl⟩
 refine Em Z<|Ex Z<|Ex Z<|?_
 refine ff rfl (fC (cs := (fk (Case.mk false 0 0))) rfl rfl rfl rfl (fun q => ?_))
 refine ff rfl (Sa (fk x17) Z .here Z ?_)
 refine Ea Z<|fb<|fc<|fa<|Em Z<|fb<|?_
 refine fm rfl ?_ ?_
 ·intro d
  have H := ift d H
  refine fc<|fa<|EL 3 (fk x17) Z (Rb0 Z)<|?_
  have f : RowR fV K [(fk x17)] [x17] := RowR.cons rfl (RowR.nil)
  refine ff rfl (gg (T := fV) (rows := [(fk x17)]) (l := [x17]) rfl rfl rfl f rfl rfl rfl rfl rfl rfl rfl rfl (fun e => ?_))
  refine Ea Z<|fb<|fy<|?_
  obtain k := gm H
  subst c
  refine ⟨(.inl rfl), [(sv e)], ⟨(sv e), _, rfl, rfl, rfl⟩, ?_⟩
  refine Shift.settle (T := fV) .here f rfl ?_
  intro p s n
  exact Re0<|Re0<|Re0<|Sd<|⟨e, rfl, rfl, n⟩
 ·intro d
  have H := f0 (btf d) H
  refine ft<|fc<|fa<|EF 5 Z<|El (sv a) Z (Rb1 Z)<|Ea Z<|fb<|fy<|?_
  obtain k := gm H
  subst c
  refine ⟨(.inl rfl), [(sv a)], ⟨(sv a), _, rfl, rfl, rfl⟩, ?_⟩
  exact Re0<|Re0<|Sd<|⟨a, rfl, rfl, g⟩
theorem BJ (p0 : ad0) (i : SV) (p1 : Case) (c : Bool) (H : qA p0 p1 = some c) (K : Kp) (G : List Ent) (m : Slr fG K (sv i) p0) :
  Fc Tryz.prog 99 #[(sv i), (.agg (fk p1).toArray)] K (G) (fun v l k => v = (.bool c) ∧ K = l ∧ G = k) := by
 refine fO Tryz.func99 rfl Tryz.ntmps99 Tryz.results99 rfl ?_
 unfold qA at H
 refine fc<|fa<|?_
 refine ff rfl (fU (cs := (fk p1)) rfl rfl rfl (fun o => ?_))
 refine Ea Z<|fb<|fc<|fa<|Em Z<|EF 1 Z<|El (Vi p1.channel) Z (Rb0 Z)<|?_
 obtain ⟨a, x14, n, H⟩ := ix H
 refine ff rfl (Ek Tryz.call92 Z (m7 p0 i p1.channel a x14 n _ _ m) ?_)
 rintro _ _ _ - ⟨h, rfl, rfl, rfl, j⟩
 refine Em Z<|Ex Z<|Ex Z<|?_
 refine ff rfl (fC (cs := (fx (fL.mk 0 [] false) fA)) rfl rfl rfl rfl (fun p => ?_))
 refine ff rfl (Sa (fx a h) Z .here Z ?_)
 refine Ea Z<|fb<|fc<|fB<|fc<|fa<|Em Z<|Eq Z (gd rfl)<|Ea Z<|fb<|?_
 refine fm rfl ?_ ?_
 ·intro b
  have b := ir b
  have H := f0 (btf b) H
  refine fc<|fa<|Ea Z<|fb<|fy<|?_
  obtain d := gm H
  subst c
  refine ⟨(.inl rfl), [(.bool false)], ⟨(.bool false), _, rfl, rfl, rfl⟩, ?_⟩
  exact Re0<|Re0<|Sd<|⟨rfl, rfl, rfl⟩
 ·intro b
  have b := iq b
  have H := ift b H
  refine fc<|fa<|EF 0 Z<|El (.bool p1.send) Z (Rb1 Z)<|Ea Z<|fb<|?_
  refine fm rfl ?_ ?_
  ·intro e
   have H := ift e H
   refine fc<|fa<|EF 2 Z<|El (.bool a.closed) Z (Rb0 Z)<|Em Z<|?_
   refine Ee Z ?_ ?_
   ·intro f
    have H := ift f H
    refine Ez Z<|Ez Z<|Ez Z<|Ez Z<|Ez Z<|Ez Z<|Et Z<|Ea Z<|fb<|fy<|?_
    obtain d := gm H
    subst c
    refine ⟨(.inl rfl), [(.bool true)], ⟨(.bool true), _, rfl, rfl, rfl⟩, ?_⟩
    exact Re0<|Re0<|Sd<|⟨rfl, rfl, rfl⟩
   ·intro f
    have H := f0 (btf f) H
    refine VF 1 Z<|Vl (sv h) Z (Rb0 Z)<|Vq Z (ge (T := Ty.u64) j rfl rfl)<|VF 0 Z<|Vl (Vi a.capacity) Z (Rb0 Z)<|Vc Z<|Ef Z<|Ea Z<|fb<|fy<|?_
    obtain d := gm H
    subst c
    refine ⟨(.inl rfl), [(.bool (dcd ((a.buffer.length : Int) < a.capacity)))], ⟨(.bool (dcd ((a.buffer.length : Int) < a.capacity))), _, rfl, rfl, rfl⟩, ?_⟩
    exact Re0<|Re0<|Sd<|⟨rfl, rfl, rfl⟩
  ·intro e
   have H := f0 (btf e) H
   refine ft<|fc<|fa<|EF 2 Z<|El (.bool a.closed) Z (Rb0 Z)<|Em Z<|?_
   refine Ee Z ?_ ?_
   ·intro g
    have H := ift g H
    refine Ez Z<|Ez Z<|Ez Z<|Ez Z<|Et Z<|Ea Z<|fb<|fy<|?_
    obtain d := gm H
    subst c
    refine ⟨(.inl rfl), [(.bool true)], ⟨(.bool true), _, rfl, rfl, rfl⟩, ?_⟩
    exact Re0<|Re0<|Sd<|⟨rfl, rfl, rfl⟩
   ·intro g
    have H := f0 (btf g) H
    refine VF 1 Z<|Vl (sv h) Z (Rb0 Z)<|Vq Z (ge (T := Ty.u64) j rfl rfl)<|Vc Z<|Ef Z<|Ea Z<|fb<|fy<|?_
    obtain d := gm H
    subst c
    refine ⟨(.inl rfl), [(.bool (dcd ((a.buffer.length : Int) > 0)))], ⟨(.bool (dcd ((a.buffer.length : Int) > 0))), _, rfl, rfl, rfl⟩, ?_⟩
    exact Re0<|Re0<|Sd<|⟨rfl, rfl, rfl⟩
theorem Cj (p0 : Case) (b : Nat) (p1 : ad0) (a : SV) (d : Bool) (H : uO p0 p1 = some d) (K : Kp) (G : List Ent) (g : Slr fG K (sv a) p1) :
  Fc Tryz.prog 98 #[(.agg (fk p0).toArray), (Vp b)] K ((.blk b 57 [(sv a)]) :: G) (fun v f e => v = (.bool d) ∧ K = f ∧ (.blk b 57 [(sv a)]) :: G = e) := by
 refine fO Tryz.func98 rfl Tryz.ntmps98 Tryz.results98 rfl ?_
 unfold uO at H
 refine fc<|fa<|?_
 refine ff rfl (fU (cs := (fk p0)) rfl rfl rfl (fun b4 => ?_))
 refine Ea Z<|fb<|fc<|fa<|El (sv a) Z (Rb1 Z)<|EL 3 (fk p0) Z (Rb0 Z)<|?_
 obtain ⟨c, h, H⟩ := bnd H
 refine ff rfl (Ek Tryz.call99 Z (BJ p1 a p0 c h _ _ g) ?_)
 rintro _ _ _ - ⟨rfl, rfl, rfl⟩
 refine Ea Z<|fb<|fy<|?_
 obtain i := gm H
 subst d
 refine ⟨(.inl rfl), [(.bool c)], ⟨(.bool c), _, rfl, rfl, rfl⟩, ?_⟩
 exact Pu1<|Re1<|Sd<|⟨rfl, rfl, rfl⟩
end Go.Hx
namespace Go.Hx
open Go Go.Proofs
set_option maxRecDepth 10000
set_option maxHeartbeats 1000000
theorem BK (p0 : af2) (m : SV) (a : Nat) (f : ad0) (c : SV) (d : Int) (H : qB p0 f = some d) (K : Kp) (G : List Ent) (l : Slr fV K (sv m) p0) (q : Slr fG K (sv c) f) :
  Fc Tryz.prog 119 #[(sv m), (.func (.func 98) #[] #[(Vp a)])] K ((.blk a 57 [(sv c)]) :: G) (fun v h e => v = (Vi d) ∧ (.blk a 57 [(sv c)]) :: G = e) := by
 refine fO Tryz.func119 rfl Tryz.ntmps119 Tryz.results119 rfl ?_
 unfold qB at H
 refine fc<|fa<|Ea Z<|fb<|?_
 refine fz (fun i h e => [] = i ∧ (.blk a 57 [(sv c)]) :: G = e ∧ uP f = some d) ?_ ?_
 ·refine fc<|fa<|Em Z<|Eq Z (ge (T := fV) l rfl rfl)<|Em Z<|fb<|fB<|?_
  refine f8 (fun n87 i h e => ∃ (b : Int), [(0, (sv m)), (1, (.func (.func 98) #[] #[(Vp a)])), (7, (Vi (p0.length : Int))), (8, (Vi b))] = i ∧ K = h ∧ (.blk a 57 [(sv c)]) :: G = e ∧ lp1 (uQ p0 f) n87 b = some d) BIG ?_ ?_
  ·exact Sd ⟨_, by exact R4, 0, rfl, rfl, rfl, H⟩
  rintro n87 _ _ _ - ⟨b, rfl, rfl, rfl, H⟩
  obtain ⟨z, y, rfl, s, H⟩ := nr H
  unfold uQ at H
  refine fc<|fa<|Ec Z<|fb<|fc<|?_
  refine fm rfl ?_ ?_
  ·intro g
   obtain ⟨g, H⟩ := It g H
   refine ft<|fc<|fB<|fc<|fa<|Em Z<|Ea Z<|fb<|fc<|fa<|Em Z<|Em Z<|Em Z<|?_
   obtain ⟨o, n, H⟩ := bnd H
   obtain ⟨_, rfl, r⟩ := Slr.at l n
   refine Eq Z (Qi (T := fV) l n Z)<|EL 3 (fk o) Z (Rdc.k r rfl)<|?_
   obtain ⟨u, t, H⟩ := bnd H
   refine ff rfl (Ek Tryz.call98 Z (Cj o a f c u t _ _ q) ?_)
   rintro _ _ _ - ⟨rfl, rfl, rfl⟩
   refine fb ?_
   refine fm rfl ?_ ?_
   ·intro j
    have H := ift j H
    refine fc<|fa<|Em Z<|Ea Z<|fb<|fy<|?_
    obtain p := gm H
    subst d
    refine ⟨(.inl rfl), [(Vi b)], ⟨(Vi b), _, rfl, rfl, rfl⟩, ?_⟩
    exact Sd ⟨rfl, rfl⟩
   ·intro j
    have H := f0 (btf j) H
    exact ft<|fa<|Er (wI (b + 1)) Z<|Em Z<|fb<|Sd<|⟨_, by exact R4, _, Nat.lt_succ_self _, (wI (b + 1)), rfl, rfl, rfl, (s ▸ H)⟩
  ·intro g
   obtain ⟨g, H⟩ := If g H
   exact ga<|Sd<|⟨[], trivial, rfl, rfl, H⟩
 rintro _ w _ x ⟨rfl, rfl, H⟩
 unfold uP at H
 refine fc<|fa<|Ea Z<|fb<|fy<|?_
 obtain p := gm H
 subst d
 refine ⟨(.inl rfl), [(Vi (-1))], ⟨(Vi (-1)), _, rfl, rfl, rfl⟩, ?_⟩
 exact Sd ⟨rfl, rfl⟩
theorem DW (p0 : af2) (d : SV) (a : Nat) (c : ad0) (b : SV) (f : Bool) (H : tW p0 c = some f) (K : Kp) (G : List Ent) (i : Slr fV K (sv d) p0) (h : Slr fG K (sv b) c) :
  Fc Tryz.prog 96 #[(sv d), (.func (.func 98) #[] #[(Vp a)])] K ((.blk a 57 [(sv b)]) :: G) (fun v k g => v = (.bool f) ∧ (.blk a 57 [(sv b)]) :: G = g) := by
 refine fO Tryz.func96 rfl Tryz.ntmps96 Tryz.results96 rfl ?_
 unfold tW at H
 refine fc<|fa<|Ea Z<|fb<|fc<|fa<|Em Z<|Em Z<|?_
 obtain ⟨e, j, H⟩ := bnd H
 refine ff rfl (Ek Tryz.call119 Z (BK p0 d a c b e j _ _ i h) ?_)
 rintro _ l _ n ⟨rfl, rfl⟩
 refine Ec Z<|Ea Z<|fb<|fy<|?_
 obtain m := gm H
 subst f
 refine ⟨(.inl rfl), [(.bool (dcd (e ≥ 0)))], ⟨(.bool (dcd (e ≥ 0))), _, rfl, rfl, rfl⟩, ?_⟩
 exact Sd ⟨rfl, rfl⟩
theorem Cm (p0 : ad1) (g : SV) (a : ad1) (H : uT p0 = some a) (K : Kp) (G : List Ent) (e : Slr Ty.i64 K (sv g) p0) :
  Fc Tryz.prog 100 #[(sv g)] K (G) (fun v c i => ∃ (h : SV) (f : List (List Value)), v = (sv h) ∧ K = c ∧ (.row (sv h) 3 1 f.flatten) :: G = i ∧ RowR Ty.i64 c f a) := by
 refine fO Tryz.func100 rfl Tryz.ntmps100 Tryz.results100 rfl ?_
 unfold uT at H
 refine fc<|fa<|Ea Z<|fb<|fc<|fc<|fa<|Em Z<|Eq Z (oL rfl rfl rfl)<|fb<|?_
 refine fm rfl ?_ ?_
 ·intro d
  have n := Slr.nil_of e d
  have H : some [] = some a := by rw [n] at H; simpa [app] using H
  refine fc<|fa<|Ea Z<|fb<|fy<|?_
  obtain j := gm H
  subst a
  refine ⟨(.inl rfl), [(sv fA)], ⟨(sv fA), _, rfl, rfl, rfl⟩, ?_⟩
  have k : RowR Ty.i64 K [] [] := RowR.nil
  exact Shift.nilRow 3 1<|Sd<|⟨fA, ([] : List (List Value)), rfl, rfl, rfl, k⟩
 ·intro d
  refine ft<|fc<|fa<|?_
  have l : RowR Ty.i64 K [] [] := RowR.nil
  refine ff rfl (yQ (T := Ty.i64) rfl rfl rfl rfl rfl (fun q => ?_))
  refine Em Z ?_
  obtain ⟨r, o, H⟩ := bnd H
  refine ff rfl (gW (T := Ty.i64) (bytes := 8) rfl rfl rfl Mb0 l (SrcT.sl e) o rfl rfl rfl rfl rfl rfl rfl rfl (fun b p m => ⟨_, .here, ?_⟩))
  refine Ea Z<|fb<|fy<|?_
  obtain j := gm H
  subst a
  refine ⟨(.inl rfl), [(sv b)], ⟨(sv b), _, rfl, rfl, rfl⟩, ?_⟩
  exact Sd ⟨b, p, rfl, rfl, rfl, m⟩
end Go.Hx
namespace Go.Hx
open Go Go.Proofs
set_option maxRecDepth 10000
set_option maxHeartbeats 1000000
theorem zu (p0 : ad0) (b : SV) (p1 : Op) (A : SV) (B : SV) (p2 : Result) (g : ad0) (h : Bool) (H : tX p0 p1 p2 = some (g, h)) (K : Kp) (G : List Ent) (s : Slr fG K (sv b) p0) (a7 : Slr fV K (sv A) p1.cases) (a8 : Slr Ty.i64 K (sv B) p1.draws) :
  Fc Tryz.prog 61 #[(sv b), (.agg (fj p1 A B).toArray), (.agg (fe p2).toArray)] K (G) (fun v i f => ∃ (bc : SV), v = (.tuple #[(sv bc), (.bool h)]) ∧ G = f ∧ Slr fG i (sv bc) g) := by
 refine fO Tryz.func61 rfl Tryz.ntmps61 Tryz.results61 rfl ?_
 unfold tX at H
 refine fc<|fa<|?_
 refine ff rfl (fU (cs := [(sv b)]) rfl rfl rfl (fun j => ?_))
 refine ff rfl (fU (cs := (fj p1 A B)) rfl rfl rfl (fun a2 => ?_))
 refine ff rfl (fU (cs := (fe p2)) rfl rfl rfl (fun a3 => ?_))
 refine Ea Z<|Ea Z<|fb<|fc<|fa<|EL 7 (fj p1 A B) Z (Rb1 Z)<|EF 1 Z<|El (Vi p2.case_) Z (Rb0 Z)<|?_
 obtain ⟨aq, ar, bH, H⟩ := ix H
 refine ff rfl (Ek Tryz.call91 Z (wo p1 A B p2.case_ aq ar bH _ _ a7 a8) ?_)
 rintro _ _ _ - ⟨rfl, rfl, rfl⟩
 refine Em Z<|Ex Z<|Ex Z<|?_
 refine ff rfl (fC (cs := (fk (Case.mk false 0 0))) rfl rfl rfl rfl (fun t => ?_))
 refine ff rfl (Sa (fk aq) Z .here Z ?_)
 refine Ea Z<|fb<|?_
 refine fz (fun m i f => ∃ (o : Bool) (n : Int) (c : Int), [(3, (Vp j)), (4, (Vp a2)), (5, (Vp a3)), (8, (Vp t)), (9, (.bool ar))] = m ∧ K = i ∧ (.blk t 108 (fk (Case.mk o n c))) :: (.blk a3 38 (fe p2)) :: (.blk a2 51 (fj p1 A B)) :: (.blk j 57 [(sv b)]) :: G = f ∧ qD ar p2 p1 p0 o n c = some (g, h)) ?_ ?_
 ·refine fc<|fa<|EF 0 Z<|El (Vi p1.kind) Z (Rb2 Z)<|Ec Z<|fb<|?_
  refine fm rfl ?_ ?_
  ·intro N
   obtain ⟨N, H⟩ := It N H
   refine fa<|EF 2 Z<|El (Vi p1.channel) Z (Rb2 Z)<|Eq Z (fF (cs := (fk (Case.mk false p1.channel 0))) rfl rfl rfl rfl rfl rfl)<|?_
   refine ff rfl (Sa (fk (Case.mk false p1.channel 0)) Z .here Z ?_)
   exact fb<|Pu3<|Pu3<|Pu3<|Pu3<|Sd<|⟨_, by exact R5, false, p1.channel, 0, rfl, rfl, rfl, H⟩
  ·intro N
   obtain ⟨N, H⟩ := If N H
   exact ft<|Pu3<|Pu3<|Pu3<|Pu3<|Sd<|⟨_, by exact R5, aq.send, aq.channel, aq.value, rfl, rfl, rfl, H⟩
 rintro _ _ _ - ⟨o, n, c, rfl, rfl, rfl, H⟩
 unfold qD at H
 refine fc<|fa<|El (sv b) Z (Rb3 Z)<|EF 1 Z<|El (Vi n) Z (Rb0 Z)<|?_
 obtain ⟨a, bd, bI, H⟩ := ix H
 refine ff rfl (Ek Tryz.call92 Z (m7 p0 b n a bd bI _ _ s) ?_)
 rintro _ _ _ - ⟨e, rfl, rfl, rfl, p⟩
 refine Em Z<|Ex Z<|Ex Z<|?_
 refine ff rfl (fC (cs := (fx (fL.mk 0 [] false) fA)) rfl rfl rfl rfl (fun u => ?_))
 refine ff rfl (Sa (fx a e) Z .here Z ?_)
 refine Ea Z<|fb<|?_
 refine fz (fun m i f => [] = m ∧ G = f ∧ iS = some (g, h)) ?_ ?_
 ·refine fc<|fa<|EL 5 (fe p2) Z (Rb2 Z)<|fb<|fB<|fc<|fa<|EF 1 Z<|El (Vi p2.case_) Z (Rb2 Z)<|Eq Z (fF (cs := (fe (Result.mk 1 p2.case_ 0 false 0))) rfl rfl rfl rfl rfl rfl)<|Eq Z (jw rfl rfl (fun w => Result.eqrun p2 (Result.mk 1 p2.case_ 0 false 0) w) (by kernel_rfl))<|Ea Z<|fb<|?_
  refine fm rfl ?_ ?_
  ·intro O
   obtain ⟨O, H⟩ := It O H
   refine fz (fun m i f => ∃ (aN : Bool), [(3, (Vp j)), (8, (Vp t)), (10, (Vp u)), (51, (.bool aN))] = m ∧ K = i ∧ (.blk u 104 (fx a e)) :: (.blk t 108 (fk (Case.mk o n c))) :: (.blk j 57 [(sv b)]) :: G = f ∧ mK a o n c p0 aN = some (g, h)) ?_ ?_
   ·refine fa<|Em Z<|Em Z<|?_
    refine Ee Z ?_ ?_
    ·intro au
     have H := ift au H
     refine VF 0 Z<|Vl (.bool o) Z (Rb1 Z)<|Et Z<|Em Z<|?_
     refine Ee Z ?_ ?_
     ·intro av
      have H := ift av H
      refine Vm Z<|Et Z<|Em Z<|?_
      refine Ee Z ?_ ?_
      ·intro aw
       have H := ift aw H
       refine VL 3 (fx a e) Z (Rb0 Z) ?_
       obtain ⟨be, bJ, H⟩ := bnd H
       refine hY rfl rfl rfl rfl (Ek Tryz.call93 Z (Ci a e be bJ _ _ p) ?_)
       rintro _ _ _ - ⟨rfl, rfl, rfl⟩
       exact Et Z<|fb<|Pu4<|Pu2<|Pu2<|Re3<|Re3<|Sd<|⟨_, by exact R4, be, rfl, rfl, rfl, H⟩
      ·intro aw
       have H := f0 (btf aw) H
       exact Ez Z<|Ez Z<|Ef Z<|fb<|Pu4<|Pu2<|Pu2<|Re3<|Re3<|Sd<|⟨_, by exact R4, false, rfl, rfl, rfl, H⟩
     ·intro av
      have H := f0 (btf av) H
      exact Ez Z<|Ef Z<|Em Z<|Ez Z<|Ez Z<|Ef Z<|fb<|Pu4<|Pu2<|Pu2<|Re3<|Re3<|Sd<|⟨_, by exact R4, false, rfl, rfl, rfl, H⟩
    ·intro au
     have H := f0 (btf au) H
     exact Ez Z<|Ez Z<|Ef Z<|Em Z<|Ez Z<|Ef Z<|Em Z<|Ez Z<|Ez Z<|Ef Z<|fb<|Pu4<|Pu2<|Pu2<|Re3<|Re3<|Sd<|⟨_, by exact R4, false, rfl, rfl, rfl, H⟩
   rintro _ _ _ - ⟨aN, rfl, rfl, rfl, H⟩
   unfold mK at H
   refine fm rfl ?_ ?_
   ·intro ax
    have H := ift ax H
    refine fz (fun m i f => ∃ (ap : SV) (J : ad1) (aM : List (List Value)), [(3, (Vp j)), (8, (Vp t)), (10, (Vp u))] = m ∧ K = i ∧ (.blk u 104 (fx (fL.mk a.capacity J a.closed) ap)) :: (.blk t 108 (fk (Case.mk o n c))) :: (.blk j 57 [(sv b)]) :: (.row (sv ap) 36 1 aM.flatten) :: G = f ∧ uR a o n c p0 J = some (g, h) ∧ RowR Ty.u64 i aM J) ?_ ?_
    ·obtain ⟨a0, aK, H⟩ := bnd H
     obtain ⟨L, aL, H⟩ := bnd H
     refine fq _ rfl (Ic Mb1 (Ic Mb2 In0))<|JF 0 1 Z<|JF 3 2 Z<|Jl 4 (.int .u64 c) Z (Rb0 Z)<|?_
     refine gU 1 5 (by kernel_rfl) ?_ ?_
     ·refine id (Jyq Z (gn (v := (sv e)) rfl rfl rfl (Rb0 Z)) ⟨(Ic Mb1 (Ic Mb2 In0)), ?_⟩)
      refine gU 2 5 (by kernel_rfl) ?_ ?_
      ·refine id (Jy Z ?_)
       refine Ek Tryz.call94 Z (sQ a.buffer e a0 aK _ _ p) ?_
       rintro _ _ _ - ⟨ci, cc, rfl, rfl, rfl, bq⟩
       refine ⟨(Ic Mb2 (Ic Mb3 In0)), ?_⟩
       refine Ao 5 Z ?_
       have a4 : RowR Ty.u64 K [[(.int .u64 c)]] [c] := RowR.cons rfl (RowR.nil)
       refine gg (T := Ty.u64) (rows := [[(.int .u64 c)]]) (l := [c]) rfl rfl rfl a4 rfl rfl rfl rfl rfl rfl rfl rfl (fun cj => ⟨(Ic Mb3 (Ic Mb4 In0)), ?_⟩)
       refine Ao 6 Z ?_
       refine gW (T := Ty.u64) (bytes := 8) rfl rfl rfl Mb1 bq (SrcT.row Mb0 a4 rfl) aL rfl rfl rfl rfl rfl rfl rfl rfl (fun aU bQ bm => ⟨_, (.there .here), ⟨(Ic Mb3 (Ic Mb4 In0)), ?_⟩⟩)
       refine Aw.shift (Re0 (Sd ⟨(Ic Mb2 (Ic Mb3 In0)), ?_⟩))
       refine JF 7 1 Z ?_
       refine Ao 8 Z ?_
       refine So [(sv aU)] (fx (fL.mk a.capacity L a.closed) aU) Z (.there .here) Z ⟨(Ic Mb2 (Ic Mb3 In0)), ?_⟩
       exact Ad<|Pu3<|Pu3<|Pu3<|Sd<|⟨_, by exact R3, aU, L, bQ, rfl, rfl, rfl, H, bm⟩
      ·refine id (Jy Z ?_)
       have a5 : RowR Ty.u64 K [[(.int .u64 c)]] [c] := RowR.cons rfl (RowR.nil)
       refine gg (T := Ty.u64) (rows := [[(.int .u64 c)]]) (l := [c]) rfl rfl rfl a5 rfl rfl rfl rfl rfl rfl rfl rfl (fun ck => ⟨(Ic Mb2 (Ic Mb3 In0)), ?_⟩)
       refine Ao 2 Z ?_
       refine Ek Tryz.call94 Z (sQ a.buffer e a0 aK _ _ p) ?_
       rintro _ _ _ - ⟨cl, cd, rfl, rfl, rfl, br⟩
       refine ⟨(Ic Mb3 (Ic Mb4 In0)), ?_⟩
       refine Ao 6 Z ?_
       refine gW (T := Ty.u64) (bytes := 8) rfl rfl rfl Mb0 br (SrcT.row Mb1 a5 rfl) aL rfl rfl rfl rfl rfl rfl rfl rfl (fun aV bR bn => ⟨_, .here, ⟨(Ic Mb3 (Ic Mb4 In0)), ?_⟩⟩)
       refine Aw.shift (Re1 (Sd ⟨(Ic Mb2 (Ic Mb3 In0)), ?_⟩))
       refine JF 7 1 Z ?_
       refine Ao 8 Z ?_
       refine So [(sv aV)] (fx (fL.mk a.capacity L a.closed) aV) Z (.there .here) Z ⟨(Ic Mb2 (Ic Mb3 In0)), ?_⟩
       exact Ad<|Pu3<|Pu3<|Pu3<|Sd<|⟨_, by exact R3, aV, L, bR, rfl, rfl, rfl, H, bn⟩
     ·refine id (Jy Z ?_)
      have a6 : RowR Ty.u64 K [[(.int .u64 c)]] [c] := RowR.cons rfl (RowR.nil)
      refine gg (T := Ty.u64) (rows := [[(.int .u64 c)]]) (l := [c]) rfl rfl rfl a6 rfl rfl rfl rfl rfl rfl rfl rfl (fun cm => ⟨(Ic Mb2 (Ic Mb3 In0)), ?_⟩)
      refine gx 1 (by kernel_rfl) (Jyq Z (gn (v := (sv e)) rfl rfl rfl (Rb1 Z)) ⟨(Ic Mb2 (Ic Mb3 In0)), ?_⟩)
      refine Ao 2 Z ?_
      refine Ek Tryz.call94 Z (sQ a.buffer e a0 aK _ _ p) ?_
      rintro _ _ _ - ⟨cn, ce, rfl, rfl, rfl, bs⟩
      refine ⟨(Ic Mb3 (Ic Mb4 In0)), ?_⟩
      refine Ao 6 Z ?_
      refine gW (T := Ty.u64) (bytes := 8) rfl rfl rfl Mb0 bs (SrcT.row Mb1 a6 rfl) aL rfl rfl rfl rfl rfl rfl rfl rfl (fun aW bS bo => ⟨_, .here, ⟨(Ic Mb3 (Ic Mb4 In0)), ?_⟩⟩)
      refine Aw.shift (Re1 (Sd ⟨(Ic Mb2 (Ic Mb3 In0)), ?_⟩))
      refine JF 7 1 Z ?_
      refine Ao 8 Z ?_
      refine So [(sv aW)] (fx (fL.mk a.capacity L a.closed) aW) Z (.there .here) Z ⟨(Ic Mb2 (Ic Mb3 In0)), ?_⟩
      exact Ad<|Pu3<|Pu3<|Pu3<|Sd<|⟨_, by exact R3, aW, L, bS, rfl, rfl, rfl, H, bo⟩
    rintro _ _ _ - ⟨ap, J, aM, rfl, rfl, rfl, H, bl⟩
    unfold uR at H
    refine fc<|fa<|El (sv b) Z (Rb2 Z)<|EF 1 Z<|El (Vi n) Z (Rb1 Z)<|EL 3 (fx (fL.mk a.capacity J a.closed) ap) Z (Rb0 Z)<|?_
    refine Ow.shift (Shift.settle (T := Ty.u64) (.there (.there (.there .here))) bl rfl (fun bY bi bt => Sd ?_))
    obtain ⟨bU, bK, H⟩ := bnd H
    have bu := s.mono bi
    refine ff rfl (Ek Tryz.call95 Z (wh p0 b n (fL.mk a.capacity J a.closed) ap bU bK _ _ bu bt) ?_)
    rintro _ _ _ - ⟨aX, cf, rfl, rfl, rfl, bv⟩
    refine Ea Z<|Ea Z<|fb<|fy<|?_
    obtain ⟨x, y⟩ := hX H
    subst g h
    refine ⟨(.inl rfl), [(sv aX), (.bool true)], ⟨(sv aX), _, rfl, rfl, ⟨(.bool true), _, rfl, rfl, rfl⟩⟩, ?_⟩
    refine Shift.settle (T := fG) .here bv rfl ?_
    intro bZ b7 bw
    exact Re0<|Re0<|Re0<|Re0<|Re0<|Sd<|⟨aX, rfl, rfl, bw⟩
   ·intro ax
    have H := f0 (btf ax) H
    exact ft<|Re0<|Re0<|Re0<|Sd<|⟨[], trivial, rfl, rfl, H⟩
  ·intro O
   obtain ⟨O, H⟩ := If O H
   refine fc<|fa<|EF 1 Z<|El (Vi p2.case_) Z (Rb2 Z)<|EF 2 Z<|El (.int .u64 p2.value) Z (Rb2 Z)<|Eq Z (fF (cs := (fe (Result.mk 2 p2.case_ p2.value true 0))) rfl rfl rfl rfl rfl rfl)<|Eq Z (jw rfl rfl (fun w => Result.eqrun p2 (Result.mk 2 p2.case_ p2.value true 0) w) (by kernel_rfl))<|Ea Z<|fb<|?_
   refine fm rfl ?_ ?_
   ·intro P
    obtain ⟨P, H⟩ := It P H
    refine fz (fun m i f => ∃ (aO : Bool), [(3, (Vp j)), (8, (Vp t)), (10, (Vp u)), (95, (.bool aO))] = m ∧ K = i ∧ (.blk u 104 (fx a e)) :: (.blk t 108 (fk (Case.mk o n c))) :: (.blk j 57 [(sv b)]) :: G = f ∧ pH a o n c p0 aO = some (g, h)) ?_ ?_
    ·rcases gQ ar with r | r <;> revert r
     ·intro z
      have H := ift z H
      rcases gQ (!(o)) with r | r <;> revert r
      ·intro q
       have q := ir q
       have H := f0 (btf q) H
       rcases gQ bd with r | r <;> revert r
       ·intro I
        have H := ift I H
        rcases gQ (dcd ((a.buffer.length : Int) > 0)) with r | r <;> revert r
        ·intro C
         obtain ⟨C, H⟩ := It C H
         obtain ⟨bf, a9, H⟩ := bnd H
         refine fq _ rfl (Ic Mb0 (Ic Mb1 (Ic Mb2 (Ic Mb3 (Ic Mb4 In0)))))<|Jm 0 Z<|Jm 1 Z<|Aw.known (d := 73) rfl (z)<|BF 2 0 Z<|Bl 3 (.bool o) Z (Rb1 Z)<|Bq 4 Z (gd rfl)<|Jt 5 Z<|Jm 6 Z<|Aw.known (d := 78) rfl (kp (q))<|Bm 7 Z<|Jt 8 Z<|Jm 9 Z<|Aw.known (d := 81) rfl (I)<|BF 10 1 Z<|Bl 11 (sv e) Z (Rb0 Z)<|Bq 12 Z (ge (T := Ty.u64) p rfl rfl)<|Bc 13 Z<|Jt 14 Z<|Jm 15 Z<|Aw.known (d := 87) rfl (hZ C)<|BF 16 1 Z<|?_
         refine Bl 17 (sv e) Z (Rb0 Z) ?_
         obtain ⟨_, rfl, bp⟩ := Slr.at p a9
         exact Bq 18 Z (Qi (T := Ty.u64) p a9 Z)<|Bl 19 (.int .u64 bf) Z (Rdc.k bp rfl)<|BF 20 2 Z<|Bl 21 (.int .u64 p2.value) Z (Rb2 Z)<|Bc 22 Z<|Jt 23 Z<|Ad<|Pu4<|Pu2<|Pu2<|Re3<|Re3<|Sd<|⟨_, by exact R4, (dcd (bf = p2.value)), rfl, rfl, rfl, H⟩
        ·intro C
         obtain ⟨C, H⟩ := If C H
         refine fq _ rfl (Ic Mb0 (Ic Mb1 (Ic Mb2 (Ic Mb3 (Ic Mb4 In0)))))<|Jm 0 Z<|Jm 1 Z<|Aw.known (d := 73) rfl (z)<|BF 2 0 Z<|Bl 3 (.bool o) Z (Rb1 Z)<|Bq 4 Z (gd rfl)<|Jt 5 Z<|Jm 6 Z<|Aw.known (d := 78) rfl (kp (q))<|Bm 7 Z<|Jt 8 Z<|Jm 9 Z<|Aw.known (d := 81) rfl (I)<|BF 10 1 Z<|Bl 11 (sv e) Z (Rb0 Z)<|Bq 12 Z (ge (T := Ty.u64) p rfl rfl)<|Bc 13 Z<|Jt 14 Z<|Jm 15 Z<|Aw.known (d := 87) rfl (io C)<|Jz 16 Z<|?_
         exact Jz 17 Z<|Jz 18 Z<|Jz 19 Z<|Jz 20 Z<|Jz 21 Z<|Jz 22 Z<|Jf 23 Z<|Ad<|Pu4<|Pu2<|Pu2<|Re3<|Re3<|Sd<|⟨_, by exact R4, false, rfl, rfl, rfl, H⟩
       ·intro I
        have H := f0 (btf I) H
        refine fq _ rfl (Ic Mb0 (Ic Mb1 (Ic Mb2 (Ic Mb3 (Ic Mb4 In0)))))<|Jm 0 Z<|Jm 1 Z<|Aw.known (d := 73) rfl (z)<|BF 2 0 Z<|Bl 3 (.bool o) Z (Rb1 Z)<|Bq 4 Z (gd rfl)<|Jt 5 Z<|Jm 6 Z<|Aw.known (d := 78) rfl (kp (q))<|Bm 7 Z<|Jt 8 Z<|Jm 9 Z<|Aw.known (d := 81) rfl (I)<|Jz 10 Z<|Jz 11 Z<|Jz 12 Z<|Jz 13 Z<|Jf 14 Z<|Jm 15 Z<|Jz 16 Z<|Jz 17 Z<|?_
        exact Jz 18 Z<|Jz 19 Z<|Jz 20 Z<|Jz 21 Z<|Jz 22 Z<|Jf 23 Z<|Ad<|Pu4<|Pu2<|Pu2<|Re3<|Re3<|Sd<|⟨_, by exact R4, false, rfl, rfl, rfl, H⟩
      ·intro q
       have q := iq q
       have H := ift q H
       refine fq _ rfl (Ic Mb0 (Ic Mb1 (Ic Mb2 (Ic Mb3 (Ic Mb4 In0)))))<|Jm 0 Z<|Jm 1 Z<|Aw.known (d := 73) rfl (z)<|BF 2 0 Z<|Bl 3 (.bool o) Z (Rb1 Z)<|Bq 4 Z (gd rfl)<|Jt 5 Z<|Jm 6 Z<|Aw.known (d := 78) rfl (kB (q))<|Jz 7 Z<|Jf 8 Z<|Jm 9 Z<|Jz 10 Z<|Jz 11 Z<|Jz 12 Z<|Jz 13 Z<|Jf 14 Z<|Jm 15 Z<|Jz 16 Z<|Jz 17 Z<|Jz 18 Z<|?_
       exact Jz 19 Z<|Jz 20 Z<|Jz 21 Z<|Jz 22 Z<|Jf 23 Z<|Ad<|Pu4<|Pu2<|Pu2<|Re3<|Re3<|Sd<|⟨_, by exact R4, false, rfl, rfl, rfl, H⟩
     ·intro z
      have H := f0 (btf z) H
      refine fq _ rfl (Ic Mb0 (Ic Mb1 (Ic Mb2 (Ic Mb3 (Ic Mb4 In0)))))<|Jm 0 Z<|Jm 1 Z<|Aw.known (d := 73) rfl (z)<|Jz 2 Z<|Jz 3 Z<|Jz 4 Z<|Jf 5 Z<|Jm 6 Z<|Jz 7 Z<|Jf 8 Z<|Jm 9 Z<|Jz 10 Z<|Jz 11 Z<|Jz 12 Z<|Jz 13 Z<|Jf 14 Z<|Jm 15 Z<|Jz 16 Z<|Jz 17 Z<|Jz 18 Z<|Jz 19 Z<|?_
      exact Jz 20 Z<|Jz 21 Z<|Jz 22 Z<|Jf 23 Z<|Ad<|Pu4<|Pu2<|Pu2<|Re3<|Re3<|Sd<|⟨_, by exact R4, false, rfl, rfl, rfl, H⟩
    rintro _ _ _ - ⟨aO, rfl, rfl, rfl, H⟩
    unfold pH at H
    refine fm rfl ?_ ?_
    ·intro ay
     have H := ift ay H
     refine fc<|fa<|EF 1 Z<|El (sv e) Z (Rb0 Z)<|?_
     obtain ⟨a1, ba, H⟩ := bnd H
     have bx := Slr.cutL p ba
     refine Eq Z (lw (T := Ty.u64) p ba rfl rfl rfl rfl rfl)<|EF 1 Z<|?_
     refine ff rfl (So [(sv (jo e 1 ((1 : Int).toNat) a.buffer.length))] (fx (fL.mk a.capacity a1 a.closed) (jo e 1 ((1 : Int).toNat) a.buffer.length)) Z .here Z ?_)
     refine fb<|fc<|fa<|El (sv b) Z (Rb2 Z)<|EF 1 Z<|El (Vi n) Z (Rb1 Z)<|EL 3 (fx (fL.mk a.capacity a1 a.closed) (jo e 1 ((1 : Int).toNat) a.buffer.length)) Z (Rb0 Z)<|?_
     obtain ⟨bV, bL, H⟩ := bnd H
     refine ff rfl (Ek Tryz.call95 Z (wh p0 b n (fL.mk a.capacity a1 a.closed) (jo e 1 ((1 : Int).toNat) a.buffer.length) bV bL _ _ s bx) ?_)
     rintro _ _ _ - ⟨aY, cg, rfl, rfl, rfl, bz⟩
     refine Ea Z<|Ea Z<|fb<|fy<|?_
     obtain ⟨x, y⟩ := hX H
     subst g h
     refine ⟨(.inl rfl), [(sv aY), (.bool true)], ⟨(sv aY), _, rfl, rfl, ⟨(.bool true), _, rfl, rfl, rfl⟩⟩, ?_⟩
     refine Shift.settle (T := fG) .here bz rfl ?_
     intro b0 b8 bA
     exact Re0<|Re0<|Re0<|Re0<|Sd<|⟨aY, rfl, rfl, bA⟩
    ·intro ay
     have H := f0 (btf ay) H
     exact ft<|Re0<|Re0<|Re0<|Sd<|⟨[], trivial, rfl, rfl, H⟩
   ·intro P
    obtain ⟨P, H⟩ := If P H
    refine fc<|fa<|EF 1 Z<|El (Vi p2.case_) Z (Rb2 Z)<|Eq Z (fF (cs := (fe (Result.mk 2 p2.case_ 0 false 0))) rfl rfl rfl rfl rfl rfl)<|Eq Z (jw rfl rfl (fun w => Result.eqrun p2 (Result.mk 2 p2.case_ 0 false 0) w) (by kernel_rfl))<|Ea Z<|fb<|?_
    refine fm rfl ?_ ?_
    ·intro Q
     obtain ⟨Q, H⟩ := It Q H
     refine fz (fun m i f => ∃ (aP : Bool), [(3, (Vp j)), (128, (.bool aP))] = m ∧ K = i ∧ (.blk j 57 [(sv b)]) :: G = f ∧ sC p0 aP = some (g, h)) ?_ ?_
     ·refine fa<|Em Z<|Em Z<|?_
      refine Ee Z ?_ ?_
      ·intro az
       have H := ift az H
       refine VF 0 Z<|Vl (.bool o) Z (Rb1 Z)<|Vq Z (gd rfl)<|Et Z<|Em Z<|?_
       refine Ee Z ?_ ?_
       ·intro D
        have D := ir D
        have H := f0 (btf D) H
        refine Vm Z<|Et Z<|Em Z<|?_
        refine Ee Z ?_ ?_
        ·intro aA
         have H := ift aA H
         refine VF 1 Z<|Vl (sv e) Z (Rb0 Z)<|Vq Z (ge (T := Ty.u64) p rfl rfl)<|Vc Z<|Et Z<|Em Z<|?_
         refine Ee Z ?_ ?_
         ·intro R
          obtain ⟨R, H⟩ := It R H
          exact VF 2 Z<|Vl (.bool a.closed) Z (Rb0 Z)<|Et Z<|fb<|Pu4<|Re1<|Re1<|Re1<|Re1<|Sd<|⟨_, by exact R2, a.closed, rfl, rfl, rfl, H⟩
         ·intro R
          obtain ⟨R, H⟩ := If R H
          exact Ez Z<|Ez Z<|Ef Z<|fb<|Pu4<|Re1<|Re1<|Re1<|Re1<|Sd<|⟨_, by exact R2, false, rfl, rfl, rfl, H⟩
        ·intro aA
         have H := f0 (btf aA) H
         exact Ez Z<|Ez Z<|Ez Z<|Ez Z<|Ef Z<|Em Z<|Ez Z<|Ez Z<|Ef Z<|fb<|Pu4<|Re1<|Re1<|Re1<|Re1<|Sd<|⟨_, by exact R2, false, rfl, rfl, rfl, H⟩
       ·intro D
        have D := iq D
        have H := ift D H
        exact Ez Z<|Ef Z<|Em Z<|Ez Z<|Ez Z<|Ez Z<|Ez Z<|Ef Z<|Em Z<|Ez Z<|Ez Z<|Ef Z<|fb<|Pu4<|Re1<|Re1<|Re1<|Re1<|Sd<|⟨_, by exact R2, false, rfl, rfl, rfl, H⟩
      ·intro az
       have H := f0 (btf az) H
       refine Ez Z<|Ez Z<|Ez Z<|Ef Z<|Em Z<|Ez Z<|Ef Z<|Em Z<|Ez Z<|Ez Z<|Ez Z<|Ez Z<|Ef Z<|Em Z<|Ez Z<|Ez Z<|Ef Z<|fb<|Pu4<|Re1<|Re1<|Re1<|?_
       exact Re1<|Sd<|⟨_, by exact R2, false, rfl, rfl, rfl, H⟩
     rintro _ _ _ - ⟨aP, rfl, rfl, rfl, H⟩
     unfold sC at H
     refine fm rfl ?_ ?_
     ·intro aB
      have H := ift aB H
      refine fc<|fa<|El (sv b) Z (Rb0 Z)<|Ea Z<|Ea Z<|fb<|fy<|?_
      obtain ⟨x, y⟩ := hX H
      subst g h
      refine ⟨(.inl rfl), [(sv b), (.bool true)], ⟨(sv b), _, rfl, rfl, ⟨(.bool true), _, rfl, rfl, rfl⟩⟩, ?_⟩
      exact Re0<|Sd<|⟨b, rfl, rfl, s⟩
     ·intro aB
      have H := f0 (btf aB) H
      exact ft<|Re0<|Sd<|⟨[], trivial, rfl, rfl, H⟩
    ·intro Q
     obtain ⟨Q, H⟩ := If Q H
     refine fc<|fa<|EF 1 Z<|El (Vi p2.case_) Z (Rb2 Z)<|Eq Z (fF (cs := (fe (Result.mk 5 p2.case_ 0 false 0))) rfl rfl rfl rfl rfl rfl)<|Eq Z (jw rfl rfl (fun w => Result.eqrun p2 (Result.mk 5 p2.case_ 0 false 0) w) (by kernel_rfl))<|Ea Z<|fb<|?_
     refine fm rfl ?_ ?_
     ·intro S
      obtain ⟨S, H⟩ := It S H
      refine fz (fun m i f => ∃ (aQ : Bool), [(3, (Vp j)), (164, (.bool aQ))] = m ∧ K = i ∧ (.blk j 57 [(sv b)]) :: G = f ∧ km p0 aQ = some (g, h)) ?_ ?_
      ·refine fa<|Em Z<|Em Z<|?_
       refine Ee Z ?_ ?_
       ·intro aC
        have H := ift aC H
        refine VF 0 Z<|Vl (.bool o) Z (Rb1 Z)<|Et Z<|Em Z<|?_
        refine Ee Z ?_ ?_
        ·intro aD
         have H := ift aD H
         refine Vm Z<|Et Z<|Em Z<|?_
         refine Ee Z ?_ ?_
         ·intro U
          have H := ift U H
          refine VF 2 Z<|Vl (.bool a.closed) Z (Rb0 Z)<|Et Z<|Em Z<|?_
          refine Ee Z ?_ ?_
          ·intro aE
           have H := ift aE H
           refine Ez Z<|Ez Z<|Ez Z<|Ez Z<|gb rfl rfl rfl rfl rfl<|gb rfl rfl rfl rfl rfl<|gb rfl rfl rfl rfl rfl<|Ez Z<|Ez Z<|gb rfl rfl rfl rfl rfl<|gb rfl rfl rfl rfl rfl<|gb rfl rfl rfl rfl rfl<|gb rfl rfl rfl rfl rfl<|gb rfl rfl rfl rfl rfl<|gb rfl rfl rfl rfl rfl<|Ez Z<|Et Z<|fb<|Pu4<|Re1<|Re1<|Re1<|?_
           exact Re1<|Sd<|⟨_, by exact R2, true, rfl, rfl, rfl, H⟩
          ·intro aE
           have H := f0 (btf aE) H
           refine VF 0 Z<|Vl (Vi p1.kind) Z (Rb3 Z)<|Vc Z<|Vm Z<|?_
           refine Ee Z ?_ ?_
           ·intro V
            obtain ⟨V, H⟩ := It V H
            refine VF 1 Z<|Vl (Vi p2.case_) Z (Rb2 Z)<|Vc Z<|Vt Z<|Vm Z<|?_
            refine Ee Z ?_ ?_
            ·intro W
             obtain ⟨W, H⟩ := It W H
             exact Vm Z<|Vq Z (gd rfl)<|Vm Z<|Ow.known (d := 159) rfl (kB (U))<|VF 2 Z<|Vl (.bool a.closed) Z (Rb0 Z)<|Vf Z<|Vt Z<|Ef Z<|fb<|Pu4<|Re1<|Re1<|Re1<|Re1<|Sd<|⟨_, by exact R2, a.closed, rfl, rfl, rfl, H⟩
            ·intro W
             obtain ⟨W, H⟩ := If W H
             exact Ez Z<|Ez Z<|Ez Z<|gb rfl rfl rfl rfl rfl<|gb rfl rfl rfl rfl rfl<|Ez Z<|Vf Z<|Ef Z<|fb<|Pu4<|Re1<|Re1<|Re1<|Re1<|Sd<|⟨_, by exact R2, false, rfl, rfl, rfl, H⟩
           ·intro V
            obtain ⟨V, H⟩ := If V H
            exact Ez Z<|Ez Z<|Ez Z<|Vf Z<|Vm Z<|Ez Z<|Ez Z<|Ez Z<|gb rfl rfl rfl rfl rfl<|gb rfl rfl rfl rfl rfl<|Ez Z<|Vf Z<|Ef Z<|fb<|Pu4<|Re1<|Re1<|Re1<|Re1<|Sd<|⟨_, by exact R2, false, rfl, rfl, rfl, H⟩
         ·intro U
          have H := f0 (btf U) H
          refine Ez Z<|Ez Z<|Ef Z<|Em Z<|VF 0 Z<|Vl (Vi p1.kind) Z (Rb3 Z)<|Vc Z<|Vm Z<|?_
          refine Ee Z ?_ ?_
          ·intro X
           obtain ⟨X, H⟩ := It X H
           refine VF 1 Z<|Vl (Vi p2.case_) Z (Rb2 Z)<|Vc Z<|Vt Z<|Vm Z<|?_
           refine Ee Z ?_ ?_
           ·intro Y
            obtain ⟨Y, H⟩ := It Y H
            exact Vm Z<|Vq Z (gd rfl)<|Vm Z<|Ow.known (d := 159) rfl (kp (U))<|Ez Z<|Ez Z<|Vt Z<|Vt Z<|Ef Z<|fb<|Pu4<|Re1<|Re1<|Re1<|Re1<|Sd<|⟨_, by exact R2, true, rfl, rfl, rfl, H⟩
           ·intro Y
            obtain ⟨Y, H⟩ := If Y H
            exact Ez Z<|Ez Z<|Ez Z<|gb rfl rfl rfl rfl rfl<|gb rfl rfl rfl rfl rfl<|Ez Z<|Vf Z<|Ef Z<|fb<|Pu4<|Re1<|Re1<|Re1<|Re1<|Sd<|⟨_, by exact R2, false, rfl, rfl, rfl, H⟩
          ·intro X
           obtain ⟨X, H⟩ := If X H
           exact Ez Z<|Ez Z<|Ez Z<|Vf Z<|Vm Z<|Ez Z<|Ez Z<|Ez Z<|gb rfl rfl rfl rfl rfl<|gb rfl rfl rfl rfl rfl<|Ez Z<|Vf Z<|Ef Z<|fb<|Pu4<|Re1<|Re1<|Re1<|Re1<|Sd<|⟨_, by exact R2, false, rfl, rfl, rfl, H⟩
        ·intro aD
         have H := f0 (btf aD) H
         refine Ez Z<|Ef Z<|Em Z<|Ez Z<|Ez Z<|Ef Z<|Em Z<|VF 0 Z<|Vl (Vi p1.kind) Z (Rb3 Z)<|Vc Z<|Vm Z<|?_
         refine Ee Z ?_ ?_
         ·intro aa
          obtain ⟨aa, H⟩ := It aa H
          refine VF 1 Z<|Vl (Vi p2.case_) Z (Rb2 Z)<|Vc Z<|Vt Z<|Vm Z<|?_
          refine Ee Z ?_ ?_
          ·intro ab
           obtain ⟨ab, H⟩ := It ab H
           refine Vm Z<|Vq Z (gd rfl)<|Vm Z<|?_
           refine Ee Z ?_ ?_
           ·intro E
            have E := ir E
            have H := f0 (btf E) H
            exact Ez Z<|Ez Z<|Vt Z<|Vt Z<|Ef Z<|fb<|Pu4<|Re1<|Re1<|Re1<|Re1<|Sd<|⟨_, by exact R2, true, rfl, rfl, rfl, H⟩
           ·intro E
            have E := iq E
            have H := ift E H
            exact VF 2 Z<|Vl (.bool a.closed) Z (Rb0 Z)<|Vf Z<|Vt Z<|Ef Z<|fb<|Pu4<|Re1<|Re1<|Re1<|Re1<|Sd<|⟨_, by exact R2, a.closed, rfl, rfl, rfl, H⟩
          ·intro ab
           obtain ⟨ab, H⟩ := If ab H
           exact Ez Z<|Ez Z<|Ez Z<|gb rfl rfl rfl rfl rfl<|gb rfl rfl rfl rfl rfl<|Ez Z<|Vf Z<|Ef Z<|fb<|Pu4<|Re1<|Re1<|Re1<|Re1<|Sd<|⟨_, by exact R2, false, rfl, rfl, rfl, H⟩
         ·intro aa
          obtain ⟨aa, H⟩ := If aa H
          exact Ez Z<|Ez Z<|Ez Z<|Vf Z<|Vm Z<|Ez Z<|Ez Z<|Ez Z<|gb rfl rfl rfl rfl rfl<|gb rfl rfl rfl rfl rfl<|Ez Z<|Vf Z<|Ef Z<|fb<|Pu4<|Re1<|Re1<|Re1<|Re1<|Sd<|⟨_, by exact R2, false, rfl, rfl, rfl, H⟩
       ·intro aC
        have H := f0 (btf aC) H
        refine Ez Z<|Ez Z<|Ef Z<|Em Z<|Ez Z<|Ef Z<|Em Z<|Ez Z<|Ez Z<|Ef Z<|Em Z<|VF 0 Z<|Vl (Vi p1.kind) Z (Rb3 Z)<|Vc Z<|Vm Z<|?_
        refine Ee Z ?_ ?_
        ·intro ac
         obtain ⟨ac, H⟩ := It ac H
         refine VF 1 Z<|Vl (Vi p2.case_) Z (Rb2 Z)<|Vc Z<|Vt Z<|Vm Z<|?_
         refine Ee Z ?_ ?_
         ·intro ad
          obtain ⟨ad, H⟩ := It ad H
          refine Vm Z<|Vq Z (gd rfl)<|Vm Z<|?_
          refine Ee Z ?_ ?_
          ·intro F
           have F := ir F
           have H := f0 (btf F) H
           exact Ez Z<|Ez Z<|Vt Z<|Vt Z<|Ef Z<|fb<|Pu4<|Re1<|Re1<|Re1<|Re1<|Sd<|⟨_, by exact R2, true, rfl, rfl, rfl, H⟩
          ·intro F
           have F := iq F
           have H := ift F H
           exact VF 2 Z<|Vl (.bool a.closed) Z (Rb0 Z)<|Vf Z<|Vt Z<|Ef Z<|fb<|Pu4<|Re1<|Re1<|Re1<|Re1<|Sd<|⟨_, by exact R2, a.closed, rfl, rfl, rfl, H⟩
         ·intro ad
          obtain ⟨ad, H⟩ := If ad H
          exact Ez Z<|Ez Z<|Ez Z<|gb rfl rfl rfl rfl rfl<|gb rfl rfl rfl rfl rfl<|Ez Z<|Vf Z<|Ef Z<|fb<|Pu4<|Re1<|Re1<|Re1<|Re1<|Sd<|⟨_, by exact R2, false, rfl, rfl, rfl, H⟩
        ·intro ac
         obtain ⟨ac, H⟩ := If ac H
         exact Ez Z<|Ez Z<|Ez Z<|Vf Z<|Vm Z<|Ez Z<|Ez Z<|Ez Z<|gb rfl rfl rfl rfl rfl<|gb rfl rfl rfl rfl rfl<|Ez Z<|Vf Z<|Ef Z<|fb<|Pu4<|Re1<|Re1<|Re1<|Re1<|Sd<|⟨_, by exact R2, false, rfl, rfl, rfl, H⟩
      rintro _ _ _ - ⟨aQ, rfl, rfl, rfl, H⟩
      unfold km at H
      refine fm rfl ?_ ?_
      ·intro aF
       have H := ift aF H
       refine fc<|fa<|El (sv b) Z (Rb0 Z)<|Ea Z<|Ea Z<|fb<|fy<|?_
       obtain ⟨x, y⟩ := hX H
       subst g h
       refine ⟨(.inl rfl), [(sv b), (.bool true)], ⟨(sv b), _, rfl, rfl, ⟨(.bool true), _, rfl, rfl, rfl⟩⟩, ?_⟩
       exact Re0<|Sd<|⟨b, rfl, rfl, s⟩
      ·intro aF
       have H := f0 (btf aF) H
       exact ft<|Re0<|Sd<|⟨[], trivial, rfl, rfl, H⟩
     ·intro S
      obtain ⟨S, H⟩ := If S H
      refine fc<|fa<|Eq Z (fF (cs := (fe (Result.mk 6 (-1) 0 false 0))) rfl rfl rfl rfl rfl rfl)<|Eq Z (jw rfl rfl (fun w => Result.eqrun p2 (Result.mk 6 (-1) 0 false 0) w) (by kernel_rfl))<|Ea Z<|fb<|?_
      refine fm rfl ?_ ?_
      ·intro ae
       obtain ⟨ae, H⟩ := It ae H
       refine fz (fun m i f => ∃ (aR : Bool), [(3, (Vp j)), (8, (Vp t)), (10, (Vp u)), (179, (.bool aR))] = m ∧ K = i ∧ (.blk u 104 (fx a e)) :: (.blk t 108 (fk (Case.mk o n c))) :: (.blk j 57 [(sv b)]) :: G = f ∧ o7 a o n c p0 aR = some (g, h)) ?_ ?_
       ·refine fa<|EF 0 Z<|El (Vi p1.kind) Z (Rb3 Z)<|Ec Z<|Em Z<|?_
        refine Ee Z ?_ ?_
        ·intro af
         obtain ⟨af, H⟩ := It af H
         refine Vm Z<|Et Z<|Em Z<|?_
         refine Ee Z ?_ ?_
         ·intro aG
          have H := ift aG H
          exact VF 2 Z<|Vl (.bool a.closed) Z (Rb0 Z)<|Vq Z (gd rfl)<|Et Z<|fb<|Pu4<|Pu2<|Pu2<|Re3<|Re3<|Sd<|⟨_, by exact R4, (!(a.closed)), rfl, rfl, rfl, H⟩
         ·intro aG
          have H := f0 (btf aG) H
          exact Ez Z<|Ez Z<|Ez Z<|Ef Z<|fb<|Pu4<|Pu2<|Pu2<|Re3<|Re3<|Sd<|⟨_, by exact R4, false, rfl, rfl, rfl, H⟩
        ·intro af
         obtain ⟨af, H⟩ := If af H
         exact Ez Z<|Ef Z<|Em Z<|Ez Z<|Ez Z<|Ez Z<|Ef Z<|fb<|Pu4<|Pu2<|Pu2<|Re3<|Re3<|Sd<|⟨_, by exact R4, false, rfl, rfl, rfl, H⟩
       rintro _ _ _ - ⟨aR, rfl, rfl, rfl, H⟩
       unfold o7 at H
       refine fm rfl ?_ ?_
       ·intro aH
        have H := ift aH H
        refine fc<|fa<|EF 2 Z<|?_
        refine ff rfl (So [(.bool true)] (fx (fL.mk a.capacity a.buffer true) e) Z .here Z ?_)
        refine fb<|fc<|fa<|El (sv b) Z (Rb2 Z)<|EF 1 Z<|El (Vi n) Z (Rb1 Z)<|EL 3 (fx (fL.mk a.capacity a.buffer true) e) Z (Rb0 Z)<|?_
        obtain ⟨bW, bM, H⟩ := bnd H
        refine ff rfl (Ek Tryz.call95 Z (wh p0 b n (fL.mk a.capacity a.buffer true) e bW bM _ _ s p) ?_)
        rintro _ _ _ - ⟨aZ, ch, rfl, rfl, rfl, bB⟩
        refine Ea Z<|Ea Z<|fb<|fy<|?_
        obtain ⟨x, y⟩ := hX H
        subst g h
        refine ⟨(.inl rfl), [(sv aZ), (.bool true)], ⟨(sv aZ), _, rfl, rfl, ⟨(.bool true), _, rfl, rfl, rfl⟩⟩, ?_⟩
        refine Shift.settle (T := fG) .here bB rfl ?_
        intro b1 b9 bC
        exact Re0<|Re0<|Re0<|Re0<|Sd<|⟨aZ, rfl, rfl, bC⟩
       ·intro aH
        have H := f0 (btf aH) H
        exact ft<|Re0<|Re0<|Re0<|Sd<|⟨[], trivial, rfl, rfl, H⟩
      ·intro ae
       obtain ⟨ae, H⟩ := If ae H
       refine fc<|fa<|Eq Z (fF (cs := (fe (Result.mk 3 (-1) 0 false 0))) rfl rfl rfl rfl rfl rfl)<|Eq Z (jw rfl rfl (fun w => Result.eqrun p2 (Result.mk 3 (-1) 0 false 0) w) (by kernel_rfl))<|Ea Z<|fb<|?_
       refine fm rfl ?_ ?_
       ·intro ag
        obtain ⟨ag, H⟩ := It ag H
        refine fz (fun m i f => ∃ (aS : Bool), [(3, (Vp j)), (198, (.bool aS))] = m ∧ (.blk j 57 [(sv b)]) :: G = f ∧ qC p0 aS = some (g, h)) ?_ ?_
        ·refine fa<|EF 1 Z<|El (Vi p1.mode) Z (Rb3 Z)<|Ec Z<|Em Z<|?_
         refine Ee Z ?_ ?_
         ·intro ah
          obtain ⟨ah, H⟩ := It ah H
          refine VL 7 (fj p1 A B) Z (Rb3 Z) ?_
          obtain ⟨bg, bN, H⟩ := bnd H
          refine hY rfl rfl rfl rfl (Ek Tryz.call97 Z (zt p1 A B bg bN _ _ a7 a8) ?_)
          rintro _ b2 _ bj ⟨bT, rfl, rfl, bD⟩
          refine Vq Z (pv rfl rfl) ?_
          obtain ⟨bh, bO, H⟩ := bnd H
          refine Ow.shift (Pu4 (Sd ?_))
          have bE := s.mono bj
          refine hY rfl rfl rfl rfl (Ek Tryz.call96 Z (DW bg bT j p0 b bh bO _ _ bD bE) ?_)
          rintro _ b3 _ ca ⟨rfl, rfl⟩
          exact Vq Z (gd rfl)<|Et Z<|fb<|Re1<|Re1<|Re1<|Re1<|Sd<|⟨_, by exact R2, (!(bh)), rfl, rfl, H⟩
         ·intro ah
          obtain ⟨ah, H⟩ := If ah H
          exact Ez Z<|Ez Z<|Ez Z<|Ez Z<|Ez Z<|Ef Z<|fb<|Pu4<|Re1<|Re1<|Re1<|Re1<|Sd<|⟨_, by exact R2, false, rfl, rfl, H⟩
        rintro _ b4 _ bk ⟨aS, rfl, rfl, H⟩
        unfold qC at H
        refine fm rfl ?_ ?_
        ·intro aI
         have H := ift aI H
         refine fc<|fa<|El (sv b) Z (Rb0 Z)<|Ea Z<|Ea Z<|fb<|fy<|?_
         obtain ⟨x, y⟩ := hX H
         subst g h
         refine ⟨(.inl rfl), [(sv b), (.bool true)], ⟨(sv b), _, rfl, rfl, ⟨(.bool true), _, rfl, rfl, rfl⟩⟩, ?_⟩
         refine Re0 ?_
         have bF := s.mono bk
         exact Sd ⟨b, rfl, rfl, bF⟩
        ·intro aI
         have H := f0 (btf aI) H
         exact ft<|Re0<|Sd<|⟨[], trivial, rfl, rfl, H⟩
       ·intro ag
        obtain ⟨ag, H⟩ := If ag H
        refine fc<|fa<|Eq Z (fF (cs := (fe (Result.mk 4 (-1) 0 false 0))) rfl rfl rfl rfl rfl rfl)<|Eq Z (jw rfl rfl (fun w => Result.eqrun p2 (Result.mk 4 (-1) 0 false 0) w) (by kernel_rfl))<|Ea Z<|fb<|?_
        refine fm rfl ?_ ?_
        ·intro ai
         obtain ⟨ai, H⟩ := It ai H
         refine fc<|fa<|EF 1 Z<|El (Vi p1.mode) Z (Rb3 Z)<|Ec Z<|fb<|?_
         refine fm rfl ?_ ?_
         ·intro aj
          obtain ⟨aj, H⟩ := It aj H
          refine fc<|fa<|El (sv b) Z (Rb4 Z)<|Ea Z<|Ea Z<|fb<|fy<|?_
          obtain ⟨x, y⟩ := hX H
          subst g h
          refine ⟨(.inl rfl), [(sv b), (.bool true)], ⟨(sv b), _, rfl, rfl, ⟨(.bool true), _, rfl, rfl, rfl⟩⟩, ?_⟩
          exact Re0<|Re0<|Re0<|Re0<|Re0<|Sd<|⟨b, rfl, rfl, s⟩
         ·intro aj
          obtain ⟨aj, H⟩ := If aj H
          exact ft<|Re0<|Re0<|Re0<|Re0<|Re0<|Sd<|⟨[], trivial, rfl, rfl, H⟩
        ·intro ai
         obtain ⟨ai, H⟩ := If ai H
         refine fc<|fa<|EF 4 Z<|El (Vi p2.number) Z (Rb2 Z)<|Eq Z (fF (cs := (fe (Result.mk 7 (-1) 0 false p2.number))) rfl rfl rfl rfl rfl rfl)<|Eq Z (jw rfl rfl (fun w => Result.eqrun p2 (Result.mk 7 (-1) 0 false p2.number) w) (by kernel_rfl))<|Ea Z<|fb<|?_
         refine fm rfl ?_ ?_
         ·intro ak
          obtain ⟨ak, H⟩ := It ak H
          refine fc<|fa<|El (sv b) Z (Rb4 Z)<|EF 2 Z<|El (Vi p1.channel) Z (Rb3 Z)<|?_
          obtain ⟨M, bX, bP, H⟩ := ix H
          refine ff rfl (Ek Tryz.call92 Z (m7 p0 b p1.channel M bX bP _ _ s) ?_)
          rintro _ _ _ - ⟨bb, rfl, rfl, rfl, bG⟩
          refine Em Z<|Ex Z<|Ex Z<|?_
          refine ff rfl (fC (cs := (fx (fL.mk 0 [] false) fA)) rfl rfl rfl rfl (fun b6 => ?_))
          refine ff rfl (Sa (fx M bb) Z .here Z ?_)
          refine Ea Z<|fb<|?_
          refine fz (fun m i f => ∃ (aT : Bool), [(3, (Vp j)), (241, (.bool aT))] = m ∧ K = i ∧ (.blk j 57 [(sv b)]) :: G = f ∧ lu p0 aT = some (g, h)) ?_ ?_
          ·refine fa<|EF 0 Z<|El (Vi p1.kind) Z (Rb4 Z)<|Ec Z<|Em Z<|?_
           refine Ee Z ?_ ?_
           ·intro al
            obtain ⟨al, H⟩ := It al H
            refine VF 4 Z<|Vl (Vi p2.number) Z (Rb3 Z)<|VF 1 Z<|Vl (sv bb) Z (Rb0 Z)<|Vq Z (ge (T := Ty.u64) bG rfl rfl)<|Vc Z<|Et Z<|Em Z<|?_
            refine Ee Z ?_ ?_
            ·intro am
             obtain ⟨am, H⟩ := It am H
             exact Ez Z<|Ez Z<|Ez Z<|Ez Z<|gb rfl rfl rfl rfl rfl<|gb rfl rfl rfl rfl rfl<|gb rfl rfl rfl rfl rfl<|gb rfl rfl rfl rfl rfl<|gb rfl rfl rfl rfl rfl<|Ez Z<|Et Z<|fb<|Pu5<|Re1<|Re1<|Re1<|Re1<|Re1<|Sd<|⟨_, by exact R2, true, rfl, rfl, rfl, H⟩
            ·intro am
             obtain ⟨am, H⟩ := If am H
             refine VF 0 Z<|Vl (Vi p1.kind) Z (Rb4 Z)<|Vc Z<|Vm Z<|?_
             refine Ee Z ?_ ?_
             ·intro an
              obtain ⟨an, H⟩ := It an H
              exact VF 4 Z<|Vl (Vi p2.number) Z (Rb3 Z)<|VF 0 Z<|Vl (Vi M.capacity) Z (Rb0 Z)<|Vc Z<|Vt Z<|Ef Z<|fb<|Pu5<|Re1<|Re1<|Re1<|Re1<|Re1<|Sd<|⟨_, by exact R2, (dcd (p2.number = M.capacity)), rfl, rfl, rfl, H⟩
             ·intro an
              obtain ⟨an, H⟩ := If an H
              exact Ez Z<|Ez Z<|Ez Z<|Ez Z<|Ez Z<|Vf Z<|Ef Z<|fb<|Pu5<|Re1<|Re1<|Re1<|Re1<|Re1<|Sd<|⟨_, by exact R2, false, rfl, rfl, rfl, H⟩
           ·intro al
            obtain ⟨al, H⟩ := If al H
            refine Ez Z<|Ez Z<|Ez Z<|Ez Z<|Ez Z<|Ez Z<|Ef Z<|Em Z<|VF 0 Z<|Vl (Vi p1.kind) Z (Rb4 Z)<|Vc Z<|Vm Z<|?_
            refine Ee Z ?_ ?_
            ·intro ao
             obtain ⟨ao, H⟩ := It ao H
             exact VF 4 Z<|Vl (Vi p2.number) Z (Rb3 Z)<|VF 0 Z<|Vl (Vi M.capacity) Z (Rb0 Z)<|Vc Z<|Vt Z<|Ef Z<|fb<|Pu5<|Re1<|Re1<|Re1<|Re1<|Re1<|Sd<|⟨_, by exact R2, (dcd (p2.number = M.capacity)), rfl, rfl, rfl, H⟩
            ·intro ao
             obtain ⟨ao, H⟩ := If ao H
             exact Ez Z<|Ez Z<|Ez Z<|Ez Z<|Ez Z<|Vf Z<|Ef Z<|fb<|Pu5<|Re1<|Re1<|Re1<|Re1<|Re1<|Sd<|⟨_, by exact R2, false, rfl, rfl, rfl, H⟩
          rintro _ _ _ - ⟨aT, rfl, rfl, rfl, H⟩
          unfold lu at H
          refine fm rfl ?_ ?_
          ·intro aJ
           have H := ift aJ H
           refine fc<|fa<|El (sv b) Z (Rb0 Z)<|Ea Z<|Ea Z<|fb<|fy<|?_
           obtain ⟨x, y⟩ := hX H
           subst g h
           refine ⟨(.inl rfl), [(sv b), (.bool true)], ⟨(sv b), _, rfl, rfl, ⟨(.bool true), _, rfl, rfl, rfl⟩⟩, ?_⟩
           exact Re0<|Sd<|⟨b, rfl, rfl, s⟩
          ·intro aJ
           have H := f0 (btf aJ) H
           exact ft<|Re0<|Sd<|⟨[], trivial, rfl, rfl, H⟩
         ·intro ak
          obtain ⟨ak, H⟩ := If ak H
          exact ft<|Re0<|Re0<|Re0<|Re0<|Re0<|Sd<|⟨[], trivial, rfl, rfl, H⟩
 rintro _ b5 _ cb ⟨rfl, rfl, H⟩
 unfold iS at H
 refine fc<|fa<|Ea Z<|Ea Z<|fb<|fy<|?_
 obtain ⟨x, y⟩ := hX H
 subst g h
 refine ⟨(.inl rfl), [(sv fA), (.bool false)], ⟨(sv fA), _, rfl, rfl, ⟨(.bool false), _, rfl, rfl, rfl⟩⟩, ?_⟩
 exact Sd ⟨fA, rfl, rfl, (Slr.nil fG _)⟩
end Go.Hx
namespace Go.Hx
open Go Go.Proofs
set_option maxRecDepth 10000
set_option maxHeartbeats 1000000
theorem lS (p0 : Result) (f : Nat) (p1 : ad0) (a : SV) (g : Nat) (p2 : Op) (b : SV) (c : SV) (h : Nat) (p3 : ad5) (d : SV) (e : ad5) (H : l6 p0 p1 p2 p3 = some e) (K : Kp) (G : List Ent) (u : Slr fG K (sv a) p1) (w : Slr fV K (sv b) p2.cases) (x : Slr Ty.i64 K (sv c) p2.draws) (n : Slr fN K (sv d) p3) :
  Fc Tryz.prog 105 #[(.agg (fe p0).toArray), (Vp f), (Vp g), (Vp h)] K ((.blk f 57 [(sv a)]) :: (.blk g 51 (fj p2 b c)) :: (.blk h 62 [(sv d)]) :: (.tok 38 5 [(sv d)]) :: G) (fun v r p => ∃ (j : SV), v = (.tuple #[]) ∧ (.blk f 57 [(sv a)]) :: (.blk g 51 (fj p2 b c)) :: (.blk h 62 [(sv j)]) :: (.tok 38 5 [(sv j)]) :: G = p ∧ Slr fN r (sv j) e) := by
 refine fO Tryz.func105 rfl Tryz.ntmps105 Tryz.results105 rfl ?_
 unfold l6 at H
 refine fc<|fa<|?_
 refine ff rfl (fU (cs := (fe p0)) rfl rfl rfl (fun I => ?_))
 refine fb<|fc<|fa<|El (sv a) Z (Rb1 Z)<|EL 7 (fj p2 b c) Z (Rb2 Z)<|EL 5 (fe p0) Z (Rb0 Z)<|?_
 obtain ⟨D, E, B, H⟩ := ix H
 refine ff rfl (Ek Tryz.call61 Z (zu p1 a p2 b c p0 D E B _ _ u w x) ?_)
 rintro _ s _ k ⟨M, rfl, rfl, L⟩
 refine Em Z<|Ex Z<|Ex Z<|Ea Z<|Ea Z<|fb<|fc<|fa<|Em Z<|fb<|?_
 refine fm rfl ?_ ?_
 ·intro i
  have H := ift i H
  refine fa<|El (sv d) Z (Rb3 Z)<|EL 5 (fe p0) Z (Rb0 Z)<|?_
  have m : RowR fN s [(fe p0)] [p0] := RowR.cons rfl (RowR.nil)
  refine ff rfl (gg (T := fN) (rows := [(fe p0)]) (l := [p0]) rfl rfl rfl m rfl rfl rfl rfl rfl rfl rfl rfl (fun N => ?_))
  obtain ⟨O, C, H⟩ := bnd H
  have z := n.mono k
  refine ff rfl (f7 (T := fN) (bytes := 40) (q := 0) rfl rfl rfl z Mb5 rfl (SrcT.row Mb0 m rfl) C rfl rfl rfl rfl rfl rfl rfl rfl (fun o F J y => ⟨_, (.there (.there (.there (.there (.there .here))))), ?_⟩))
  refine Ow.shift (Re0 (Sd ?_))
  refine ff rfl (Sa [(sv o)] Z (.there (.there (.there .here))) Z ?_)
  refine fb ?_
  obtain t := gm H
  subst e
  refine ⟨(by first|exact .inl rfl|exact .inr rfl), [], rfl, ?_⟩
  exact Pu4<|Pu4<|Pu4<|Pu4<|Re4<|Sd<|⟨o, rfl, rfl, y⟩
 ·intro i
  have H := f0 (btf i) H
  refine ft ?_
  obtain t := gm H
  subst e
  refine ⟨(by first|exact .inl rfl|exact .inr rfl), [], rfl, ?_⟩
  refine Pu4<|Pu4<|Pu4<|Pu4<|Re4<|?_
  have A := n.mono k
  exact Sd ⟨d, rfl, rfl, A⟩
theorem BM (p0 : ad0) (d : SV) (p1 : Op) (e : SV) (f : SV) (n : ad5) (H : qG p0 p1 = some n) (K : Kp) (G : List Ent) (L : Slr fG K (sv d) p0) (A : Slr fV K (sv e) p1.cases) (B : Slr Ty.i64 K (sv f) p1.draws) :
  Fc Tryz.prog 67 #[(sv d), (.agg (fj p1 e f).toArray)] K (G) (fun v j i => ∃ (U : SV), v = (sv U) ∧ (.tok 38 5 [(sv U)]) :: G = i ∧ Slr fN j (sv U) n) := by
 refine fO Tryz.func67 rfl Tryz.ntmps67 Tryz.results67 rfl ?_
 unfold qG at H
 refine fc<|fa<|?_
 refine ff rfl (fU (cs := [(sv d)]) rfl rfl rfl (fun b => ?_))
 refine ff rfl (fU (cs := (fj p1 e f)) rfl rfl rfl (fun c => ?_))
 refine Ea Z<|fb<|fc<|fa<|?_
 refine ff rfl (fC (cs := [(sv fA)]) rfl rfl rfl rfl (fun a => ?_))
 refine fb<|fc<|fa<|Eq Z (pv rfl rfl)<|Ea Z<|fb<|fc<|fc<|fa<|EF 0 Z<|El (Vi p1.kind) Z (Rb1 Z)<|Ec Z<|fb<|?_
 refine fm rfl ?_ ?_
 ·intro u
  obtain ⟨u, H⟩ := It u H
  refine fc<|fa<|Em Z<|Eq Z (fF (cs := (fe (Result.mk 6 (-1) 0 false 0))) rfl rfl rfl rfl rfl rfl)<|?_
  obtain ⟨am, aN, H⟩ := bnd H
  refine Ow.shift (Shift.nilTok1 38 5 (Sd ?_))
  refine Ow.shift (Pu1 (Sd ?_))
  refine Ow.shift (Pu2 (Sd ?_))
  refine Ow.shift (Pu3 (Sd ?_))
  refine ff rfl (Ek Tryz.call105 Z (lS (Result.mk 6 (-1) 0 false 0) b p0 d c p1 e f a ([] : ad5) fA am aN _ _ L A B (Slr.nil fN _)) ?_)
  rintro _ a1 _ E ⟨aV, rfl, rfl, ay⟩
  refine fb<|fc<|fa<|Em Z<|Eq Z (fF (cs := (fe (Result.mk 5 (-1) 0 false 0))) rfl rfl rfl rfl rfl rfl)<|?_
  obtain ⟨aZ, aO, H⟩ := bnd H
  refine Ow.shift (Pu3 (Sd ?_))
  refine Ow.shift (Pu3 (Sd ?_))
  refine Ow.shift (Pu3 (Sd ?_))
  refine Ow.shift (Pu3 (Sd ?_))
  have az := L.mono E
  have aA := A.mono E
  have aB := B.mono E
  refine ff rfl (Ek Tryz.call105 Z (lS (Result.mk 5 (-1) 0 false 0) b p0 d c p1 e f a am aV aZ aO _ _ az aA aB ay) ?_)
  rintro _ a2 _ bb ⟨D, rfl, rfl, aC⟩
  refine fb<|fc<|fa<|El (sv D) Z (Rb2 Z)<|Ea Z<|fb<|fy<|?_
  obtain au := gm H
  subst n
  refine ⟨(.inl rfl), [(sv D)], ⟨(sv D), _, rfl, rfl, rfl⟩, ?_⟩
  exact Pu3<|Re1<|Re1<|Re1<|Sd<|⟨D, rfl, rfl, aC⟩
 ·intro u
  obtain ⟨u, H⟩ := If u H
  refine ft ?_
  refine fz (fun o j i => ∃ (l : SV) (Q : ad5), [(5, (Vp a))] = o ∧ (.blk a 62 [(sv l)]) :: (.tok 38 5 [(sv l)]) :: G = i ∧ uS Q = some n ∧ Slr fN j (sv l) Q) ?_ ?_
  ·refine fc<|fa<|EL 7 (fj p1 e f) Z (Rb1 Z)<|?_
   obtain ⟨q, aP, H⟩ := bnd H
   refine ff rfl (Ek Tryz.call97 Z (zt p1 e f q aP _ _ A B) ?_)
   rintro _ a3 _ F ⟨R, rfl, rfl, Y⟩
   refine Eq Z (ge (T := fV) Y rfl rfl)<|Em Z<|fb<|fB<|?_
   refine f8 (fun ak o j i => ∃ (h : Int) (m : SV) (s : ad5), [(2, (Vp b)), (3, (Vp c)), (5, (Vp a)), (6, (.func (.func 105) #[] #[(Vp b), (Vp c), (Vp a)])), (23, (sv R)), (24, (Vi (q.length : Int))), (25, (Vi h))] = o ∧ (.blk a 62 [(sv m)]) :: (.blk c 51 (fj p1 e f)) :: (.blk b 57 [(sv d)]) :: (.tok 38 5 [(sv m)]) :: G = i ∧ lp2 (qF q p1 p0) ak h s = some n ∧ Slr fN j (sv m) s) BIG ?_ ?_
   ·exact Shift.nilTok1 38 5<|Pu3<|Pu3<|Pu3<|Sd<|⟨_, by exact R7, 0, fA, ([] : ad5), rfl, rfl, H, (Slr.nil fN _)⟩
   rintro ak _ ar _ z ⟨h, m, s, rfl, rfl, H, aa⟩
   obtain ⟨bf, aj, rfl, ax, H⟩ := jF H
   unfold qF at H
   refine fc<|fa<|Ec Z<|fb<|fc<|?_
   refine fm rfl ?_ ?_
   ·intro w
    obtain ⟨w, H⟩ := It w H
    refine ft<|fc<|fB<|fc<|fa<|Em Z<|?_
    obtain ⟨t, ah, H⟩ := bnd H
    have ab := Y.mono z
    obtain ⟨_, rfl, av⟩ := Slr.at ab ah
    refine Eq Z (Qi (T := fV) ab ah Z)<|EL 3 (fk t) Z (Rdc.k av rfl)<|?_
    refine ff rfl (fC (cs := (fk (Case.mk false 0 0))) rfl rfl rfl rfl (fun X => ?_))
    refine Ea Z ?_
    refine ff rfl (Sa (fk t) Z .here Z ?_)
    refine fb ?_
    refine fz (fun o j i => ∃ (g : Int), [(2, (Vp b)), (3, (Vp c)), (5, (Vp a)), (6, (.func (.func 105) #[] #[(Vp b), (Vp c), (Vp a)])), (7, (Vi g)), (8, (Vp X)), (23, (sv R)), (24, (Vi (q.length : Int))), (25, (Vi h))] = o ∧ ar = j ∧ (.blk X 108 (fk t)) :: (.blk a 62 [(sv m)]) :: (.blk c 51 (fj p1 e f)) :: (.blk b 57 [(sv d)]) :: (.tok 38 5 [(sv m)]) :: G = i ∧ nD q h t s p1 p0 aj g = some n) ?_ ?_
    ·refine fc<|fa<|EF 0 Z<|El (Vi p1.kind) Z (Rb2 Z)<|Ec Z<|fb<|?_
     refine fm rfl ?_ ?_
     ·intro p
      have p := ky (ir (p))
      have H := f0 p H
      exact fa<|Ea Z<|fb<|Pu4<|Pu4<|Pu4<|Pu4<|Pu4<|Sd<|⟨_, by exact R9, (-1), rfl, rfl, rfl, H⟩
     ·intro p
      have p := kz (iq (p))
      have H := ift p H
      exact ft<|Pu4<|Pu4<|Pu4<|Pu4<|Pu4<|Sd<|⟨_, by exact R9, h, rfl, rfl, rfl, H⟩
    rintro _ _ _ - ⟨g, rfl, rfl, rfl, H⟩
    unfold nD at H
    refine fc<|fa<|Em Z<|Em Z<|Eq Z (fF (cs := (fe (Result.mk 5 g 0 false 0))) rfl rfl rfl rfl rfl rfl)<|?_
    obtain ⟨an, aQ, H⟩ := bnd H
    refine Ow.shift (Pu4 (Sd ?_))
    refine Ow.shift (Pu2 (Sd ?_))
    refine Ow.shift (Pu3 (Sd ?_))
    refine Ow.shift (Pu4 (Sd ?_))
    have ac := (L.mono F).mono z
    have ad := (A.mono F).mono z
    have ae := (B.mono F).mono z
    refine ff rfl (Ek Tryz.call105 Z (lS (Result.mk 5 g 0 false 0) b p0 d c p1 e f a s m an aQ _ _ ac ad ae aa) ?_)
    rintro _ a4 _ I ⟨aW, rfl, rfl, aE⟩
    refine fb<|fc<|fa<|Em Z<|Em Z<|Eq Z (fF (cs := (fe (Result.mk 1 g 0 false 0))) rfl rfl rfl rfl rfl rfl)<|?_
    obtain ⟨V, aR, H⟩ := bnd H
    refine Ow.shift (Pu3 (Sd ?_))
    refine Ow.shift (Pu3 (Sd ?_))
    refine Ow.shift (Pu3 (Sd ?_))
    refine Ow.shift (Pu3 (Sd ?_))
    have M := ac.mono I
    have N := ad.mono I
    have O := ae.mono I
    refine ff rfl (Ek Tryz.call105 Z (lS (Result.mk 1 g 0 false 0) b p0 d c p1 e f a an aW V aR _ _ M N O aE) ?_)
    rintro _ a5 _ r ⟨al, rfl, rfl, af⟩
    refine fb ?_
    refine fz (fun o j i => ∃ (y : SV) (C : ad5), [(2, (Vp b)), (3, (Vp c)), (5, (Vp a)), (6, (.func (.func 105) #[] #[(Vp b), (Vp c), (Vp a)])), (7, (Vi g)), (23, (sv R)), (24, (Vi (q.length : Int))), (25, (Vi h))] = o ∧ (.blk a 62 [(sv y)]) :: (.blk c 51 (fj p1 e f)) :: (.blk b 57 [(sv d)]) :: (.tok 38 5 [(sv y)]) :: G = i ∧ qE g q h p1 p0 aj C = some n ∧ Slr fN j (sv y) C) ?_ ?_
    ·refine fc<|fa<|El (sv d) Z (Rb0 Z)<|EF 1 Z<|El (Vi t.channel) Z (Rb4 Z)<|?_
     obtain ⟨ao, a0, aS, H⟩ := ix H
     have ag := M.mono r
     refine ff rfl (Ek Tryz.call92 Z (m7 p0 d t.channel ao a0 aS _ _ ag) ?_)
     rintro _ _ _ - ⟨S, rfl, rfl, rfl, P⟩
     refine Em Z<|Ex Z<|Ex Z<|?_
     refine ff rfl (fC (cs := (fx (fL.mk 0 [] false) fA)) rfl rfl rfl rfl (fun ba => ?_))
     refine ff rfl (Sa (fx ao S) Z .here Z ?_)
     refine Ea Z<|fb<|fc<|fa<|EF 1 Z<|El (sv S) Z (Rb0 Z)<|Eq Z (ge (T := Ty.u64) P rfl rfl)<|Ec Z<|fb<|?_
     refine fm rfl ?_ ?_
     ·intro x
      obtain ⟨x, H⟩ := It x H
      refine fa<|Em Z<|Em Z<|EF 1 Z<|El (sv S) Z (Rb0 Z)<|?_
      obtain ⟨W, ai, H⟩ := bnd H
      obtain ⟨_, rfl, aw⟩ := Slr.at P ai
      refine Eq Z (Qi (T := Ty.u64) P ai Z)<|El (.int .u64 W) Z (Rdc.k aw rfl)<|Eq Z (fF (cs := (fe (Result.mk 2 g W true 0))) rfl rfl rfl rfl rfl rfl)<|?_
      obtain ⟨ap, aT, H⟩ := bnd H
      refine Ow.shift (Pu4 (Sd ?_))
      refine Ow.shift (Pu4 (Sd ?_))
      refine Ow.shift (Pu4 (Sd ?_))
      refine Ow.shift (Pu4 (Sd ?_))
      have aG := N.mono r
      have aH := O.mono r
      refine ff rfl (Ek Tryz.call105 Z (lS (Result.mk 2 g W true 0) b p0 d c p1 e f a V al ap aT _ _ ag aG aH af) ?_)
      rintro _ a6 _ bc ⟨aX, rfl, rfl, aI⟩
      exact fb<|Pu3<|Pu1<|Pu2<|Pu3<|Re4<|Re4<|Sd<|⟨_, by exact R8, aX, ap, rfl, rfl, H, aI⟩
     ·intro x
      obtain ⟨x, H⟩ := If x H
      exact ft<|Pu4<|Pu2<|Pu3<|Pu4<|Re4<|Re4<|Sd<|⟨_, by exact R8, al, V, rfl, rfl, H, af⟩
    rintro _ a7 _ J ⟨y, C, rfl, rfl, H, aF⟩
    unfold qE at H
    refine fa<|Em Z<|Em Z<|Eq Z (fF (cs := (fe (Result.mk 2 g 0 false 0))) rfl rfl rfl rfl rfl rfl)<|?_
    obtain ⟨aq, aU, H⟩ := bnd H
    refine Ow.shift (Pu3 (Sd ?_))
    refine Ow.shift (Pu1 (Sd ?_))
    refine Ow.shift (Pu2 (Sd ?_))
    refine Ow.shift (Pu3 (Sd ?_))
    have aJ := (M.mono r).mono J
    have aK := (N.mono r).mono J
    have aL := (O.mono r).mono J
    refine ff rfl (Ek Tryz.call105 Z (lS (Result.mk 2 g 0 false 0) b p0 d c p1 e f a C y aq aU _ _ aJ aK aL aF) ?_)
    rintro _ a8 _ bd ⟨aY, rfl, rfl, aM⟩
    exact fb<|fa<|Er (wI (h + 1)) Z<|Em Z<|fb<|Pu3<|Pu1<|Pu2<|Pu3<|Sd<|⟨_, by exact R7, _, Nat.lt_succ_self _, (wI (h + 1)), aY, aq, rfl, rfl, (ax ▸ H), aM⟩
   ·intro w
    obtain ⟨w, H⟩ := If w H
    exact ga<|Pu3<|Pu1<|Re2<|Re2<|Sd<|⟨_, by exact R1, m, s, rfl, rfl, H, aa⟩
  rintro _ a9 _ be ⟨l, Q, rfl, rfl, H, aD⟩
  unfold uS at H
  refine fc<|fa<|El (sv l) Z (Rb0 Z)<|Ea Z<|fb<|fy<|?_
  obtain au := gm H
  subst n
  refine ⟨(.inl rfl), [(sv l)], ⟨(sv l), _, rfl, rfl, rfl⟩, ?_⟩
  exact Pu1<|Re1<|Sd<|⟨l, rfl, rfl, aD⟩
theorem xi (p0 : ad0) (u : SV) (p1 : Op) (h : SV) (i : SV) (p2 : Result) (p3 : Op) (j : SV) (k : SV) (p4 : Result) (n : Bool) (H : nG p0 p1 p2 p3 p4 = some n) (K : Kp) (G : List Ent) (y : Slr fG K (sv u) p0) (z : Slr fV K (sv h) p1.cases) (A : Slr Ty.i64 K (sv i) p1.draws) (B : Slr fV K (sv j) p3.cases) (C : Slr Ty.i64 K (sv k) p3.draws) :
  Fc Tryz.prog 120 #[(sv u), (.agg (fj p1 h i).toArray), (.agg (fe p2).toArray), (.agg (fj p3 j k).toArray), (.agg (fe p4).toArray)] K (G) (fun v p o => v = (.bool n) ∧ K = p ∧ G = o) := by
 refine fO Tryz.func120 rfl Tryz.ntmps120 Tryz.results120 rfl ?_
 unfold nG at H
 refine fc<|fa<|?_
 refine ff rfl (fU (cs := (fj p1 h i)) rfl rfl rfl (fun N => ?_))
 refine ff rfl (fU (cs := (fe p2)) rfl rfl rfl (fun O => ?_))
 refine ff rfl (fU (cs := (fj p3 j k)) rfl rfl rfl (fun P => ?_))
 refine ff rfl (fU (cs := (fe p4)) rfl rfl rfl (fun Q => ?_))
 refine Ea Z<|fb<|fc<|fa<|EL 7 (fj p1 h i) Z (Rb3 Z)<|EF 1 Z<|El (Vi p2.case_) Z (Rb2 Z)<|?_
 obtain ⟨a, J, D, H⟩ := ix H
 refine ff rfl (Ek Tryz.call91 Z (wo p1 h i p2.case_ a J D _ _ z A) ?_)
 rintro _ _ _ - ⟨rfl, rfl, rfl⟩
 refine Em Z<|Ex Z<|Ex Z<|?_
 refine ff rfl (fC (cs := (fk (Case.mk false 0 0))) rfl rfl rfl rfl (fun R => ?_))
 refine ff rfl (Sa (fk a) Z .here Z ?_)
 refine Ea Z<|fb<|fc<|fa<|EL 7 (fj p3 j k) Z (Rb2 Z)<|EF 1 Z<|El (Vi p4.case_) Z (Rb1 Z)<|?_
 obtain ⟨l, L, E, H⟩ := ix H
 refine ff rfl (Ek Tryz.call91 Z (wo p3 j k p4.case_ l L E _ _ B C) ?_)
 rintro _ _ _ - ⟨rfl, rfl, rfl⟩
 refine Em Z<|Ex Z<|Ex Z<|?_
 refine ff rfl (fC (cs := (fk (Case.mk false 0 0))) rfl rfl rfl rfl (fun S => ?_))
 refine ff rfl (Sa (fk l) Z .here Z ?_)
 refine Ea Z<|fb<|fc<|fa<|Em Z<|EF 1 Z<|El (Vi a.channel) Z (Rb1 Z)<|?_
 obtain ⟨m, M, F, H⟩ := ix H
 refine ff rfl (Ek Tryz.call92 Z (m7 p0 u a.channel m M F _ _ y) ?_)
 rintro _ _ _ - ⟨I, rfl, rfl, rfl, V⟩
 refine Em Z<|Ex Z<|Ex Z<|?_
 refine ff rfl (fC (cs := (fx (fL.mk 0 [] false) fA)) rfl rfl rfl rfl (fun T => ?_))
 refine ff rfl (Sa (fx m I) Z .here Z ?_)
 refine Ea Z<|fb<|?_
 refine fz (fun x p o => ∃ (g : Bool), [(10, (.bool g))] = x ∧ K = p ∧ G = o ∧ oJ g = some n) ?_ ?_
 ·refine fa<|Em Z<|Em Z<|?_
  refine Ee Z ?_ ?_
  ·intro q
   have H := ift q H
   refine Vm Z<|Et Z<|Em Z<|?_
   refine Ee Z ?_ ?_
   ·intro r
    have H := ift r H
    refine VF 0 Z<|Vl (.bool a.send) Z (Rb2 Z)<|Et Z<|Em Z<|?_
    refine Ee Z ?_ ?_
    ·intro s
     have H := ift s H
     refine VF 0 Z<|Vl (.bool l.send) Z (Rb1 Z)<|Vq Z (gd rfl)<|Et Z<|Em Z<|?_
     refine Ee Z ?_ ?_
     ·intro b
      have b := ir b
      have H := f0 (btf b) H
      refine VF 1 Z<|Vl (Vi a.channel) Z (Rb2 Z)<|VF 1 Z<|Vl (Vi l.channel) Z (Rb1 Z)<|Vc Z<|Et Z<|Em Z<|?_
      refine Ee Z ?_ ?_
      ·intro d
       obtain ⟨d, H⟩ := It d H
       refine Vm Z<|Et Z<|Em Z<|?_
       refine Ee Z ?_ ?_
       ·intro t
        have H := ift t H
        refine VF 2 Z<|Vl (.bool m.closed) Z (Rb0 Z)<|Vq Z (gd rfl)<|Et Z<|Em Z<|?_
        refine Ee Z ?_ ?_
        ·intro c
         have c := ir c
         have H := f0 (btf c) H
         refine VF 0 Z<|Vl (Vi m.capacity) Z (Rb0 Z)<|Vc Z<|Et Z<|Em Z<|?_
         refine Ee Z ?_ ?_
         ·intro e
          obtain ⟨e, H⟩ := It e H
          refine VL 5 (fe p2) Z (Rb5 Z)<|VF 1 Z<|Vl (Vi p2.case_) Z (Rb5 Z)<|Vq Z (fF (cs := (fe (Result.mk 1 p2.case_ 0 false 0))) rfl rfl rfl rfl rfl rfl)<|Vq Z (jw rfl rfl (fun w => Result.eqrun p2 (Result.mk 1 p2.case_ 0 false 0) w) (by kernel_rfl))<|Et Z<|Em Z<|?_
          refine Ee Z ?_ ?_
          ·intro f
           obtain ⟨f, H⟩ := It f H
           exact VL 5 (fe p4) Z (Rb3 Z)<|VF 1 Z<|Vl (Vi p4.case_) Z (Rb3 Z)<|VF 2 Z<|Vl (.int .u64 a.value) Z (Rb2 Z)<|Vq Z (fF (cs := (fe (Result.mk 2 p4.case_ a.value true 0))) rfl rfl rfl rfl rfl rfl)<|Vq Z (jw rfl rfl (fun w => Result.eqrun p4 (Result.mk 2 p4.case_ a.value true 0) w) (by kernel_rfl))<|Et Z<|Ea Z<|fb<|Re0<|Re0<|Re0<|Re0<|Re0<|Re0<|Re0<|Sd<|⟨_, by exact R1, (dcd (p4 = (Result.mk 2 p4.case_ a.value true 0))), rfl, rfl, rfl, H⟩
          ·intro f
           obtain ⟨f, H⟩ := If f H
           exact Ez Z<|Ez Z<|Ez Z<|Ez Z<|Ez Z<|Ez Z<|Ez Z<|Ef Z<|Ea Z<|fb<|Re0<|Re0<|Re0<|Re0<|Re0<|Re0<|Re0<|Sd<|⟨_, by exact R1, false, rfl, rfl, rfl, H⟩
         ·intro e
          obtain ⟨e, H⟩ := If e H
          refine Ez Z<|Ez Z<|Ez Z<|Ez Z<|Ez Z<|Ef Z<|Em Z<|Ez Z<|Ez Z<|Ez Z<|Ez Z<|Ez Z<|Ez Z<|Ez Z<|Ef Z<|Ea Z<|fb<|Re0<|Re0<|Re0<|Re0<|Re0<|?_
          exact Re0<|Re0<|Sd<|⟨_, by exact R1, false, rfl, rfl, rfl, H⟩
        ·intro c
         have c := iq c
         have H := ift c H
         refine Ez Z<|Ez Z<|Ez Z<|Ef Z<|Em Z<|Ez Z<|Ez Z<|Ez Z<|Ez Z<|Ez Z<|Ef Z<|Em Z<|Ez Z<|Ez Z<|Ez Z<|Ez Z<|Ez Z<|Ez Z<|Ez Z<|Ef Z<|Ea Z<|fb<|?_
         exact Re0<|Re0<|Re0<|Re0<|Re0<|Re0<|Re0<|Sd<|⟨_, by exact R1, false, rfl, rfl, rfl, H⟩
       ·intro t
        have H := f0 (btf t) H
        refine Ez Z<|Ez Z<|Ez Z<|Ef Z<|Em Z<|Ez Z<|Ez Z<|Ez Z<|Ef Z<|Em Z<|Ez Z<|Ez Z<|Ez Z<|Ez Z<|Ez Z<|Ef Z<|Em Z<|Ez Z<|Ez Z<|Ez Z<|Ez Z<|Ez Z<|?_
        exact Ez Z<|Ez Z<|Ef Z<|Ea Z<|fb<|Re0<|Re0<|Re0<|Re0<|Re0<|Re0<|Re0<|Sd<|⟨_, by exact R1, false, rfl, rfl, rfl, H⟩
      ·intro d
       obtain ⟨d, H⟩ := If d H
       refine Ez Z<|Ef Z<|Em Z<|Ez Z<|Ez Z<|Ez Z<|Ef Z<|Em Z<|Ez Z<|Ez Z<|Ez Z<|Ef Z<|Em Z<|Ez Z<|Ez Z<|Ez Z<|Ez Z<|Ez Z<|Ef Z<|Em Z<|Ez Z<|Ez Z<|?_
       exact Ez Z<|Ez Z<|Ez Z<|Ez Z<|Ez Z<|Ef Z<|Ea Z<|fb<|Re0<|Re0<|Re0<|Re0<|Re0<|Re0<|Re0<|Sd<|⟨_, by exact R1, false, rfl, rfl, rfl, H⟩
     ·intro b
      have b := iq b
      have H := ift b H
      refine Ez Z<|Ez Z<|Ez Z<|Ez Z<|Ez Z<|Ef Z<|Em Z<|Ez Z<|Ef Z<|Em Z<|Ez Z<|Ez Z<|Ez Z<|Ef Z<|Em Z<|Ez Z<|Ez Z<|Ez Z<|Ef Z<|Em Z<|Ez Z<|Ez Z<|?_
      exact Ez Z<|Ez Z<|Ez Z<|Ef Z<|Em Z<|Ez Z<|Ez Z<|Ez Z<|Ez Z<|Ez Z<|Ez Z<|Ez Z<|Ef Z<|Ea Z<|fb<|Re0<|Re0<|Re0<|Re0<|Re0<|Re0<|Re0<|Sd ⟨_, by exact R1, false, rfl, rfl, rfl, H⟩
    ·intro s
     have H := f0 (btf s) H
     refine Ez Z<|Ez Z<|Ez Z<|Ef Z<|Em Z<|Ez Z<|Ez Z<|Ez Z<|Ez Z<|Ez Z<|Ef Z<|Em Z<|Ez Z<|Ef Z<|Em Z<|Ez Z<|Ez Z<|Ez Z<|Ef Z<|Em Z<|Ez Z<|Ez Z<|?_
     refine Ez Z<|Ef Z<|Em Z<|Ez Z<|Ez Z<|Ez Z<|Ez Z<|Ez Z<|Ef Z<|Em Z<|Ez Z<|Ez Z<|Ez Z<|Ez Z<|Ez Z<|Ez Z<|Ez Z<|Ef Z<|Ea Z<|fb<|Re0<|Re0<|?_
     exact Re0<|Re0<|Re0<|Re0<|Re0<|Sd<|⟨_, by exact R1, false, rfl, rfl, rfl, H⟩
   ·intro r
    have H := f0 (btf r) H
    refine Ez Z<|Ez Z<|Ef Z<|Em Z<|Ez Z<|Ez Z<|Ez Z<|Ef Z<|Em Z<|Ez Z<|Ez Z<|Ez Z<|Ez Z<|Ez Z<|Ef Z<|Em Z<|Ez Z<|Ef Z<|Em Z<|Ez Z<|Ez Z<|Ez Z<|?_
    refine Ef Z<|Em Z<|Ez Z<|Ez Z<|Ez Z<|Ef Z<|Em Z<|Ez Z<|Ez Z<|Ez Z<|Ez Z<|Ez Z<|Ef Z<|Em Z<|Ez Z<|Ez Z<|Ez Z<|Ez Z<|Ez Z<|Ez Z<|Ez Z<|Ef Z<|?_
    exact Ea Z<|fb<|Re0<|Re0<|Re0<|Re0<|Re0<|Re0<|Re0<|Sd<|⟨_, by exact R1, false, rfl, rfl, rfl, H⟩
  ·intro q
   have H := f0 (btf q) H
   refine Ez Z<|Ef Z<|Em Z<|Ez Z<|Ez Z<|Ef Z<|Em Z<|Ez Z<|Ez Z<|Ez Z<|Ef Z<|Em Z<|Ez Z<|Ez Z<|Ez Z<|Ez Z<|Ez Z<|Ef Z<|Em Z<|Ez Z<|Ef Z<|Em Z<|?_
   refine Ez Z<|Ez Z<|Ez Z<|Ef Z<|Em Z<|Ez Z<|Ez Z<|Ez Z<|Ef Z<|Em Z<|Ez Z<|Ez Z<|Ez Z<|Ez Z<|Ez Z<|Ef Z<|Em Z<|Ez Z<|Ez Z<|Ez Z<|Ez Z<|Ez Z<|?_
   exact Ez Z<|Ez Z<|Ef Z<|Ea Z<|fb<|Re0<|Re0<|Re0<|Re0<|Re0<|Re0<|Re0<|Sd<|⟨_, by exact R1, false, rfl, rfl, rfl, H⟩
 rintro _ _ _ - ⟨g, rfl, rfl, rfl, H⟩
 unfold oJ at H
 refine fy ?_
 obtain U := gm H
 subst n
 refine ⟨(.inl rfl), [(.bool g)], ⟨(.bool g), _, rfl, rfl, rfl⟩, ?_⟩
 exact Sd ⟨rfl, rfl, rfl⟩
theorem BO (p0 : ad0) (e : SV) (p1 : Op) (a : SV) (b : SV) (p2 : Result) (p3 : Op) (c : SV) (d : SV) (p4 : Result) (f : Bool) (H : qI p0 p1 p2 p3 p4 = some f) (K : Kp) (G : List Ent) (i : Slr fG K (sv e) p0) (j : Slr fV K (sv a) p1.cases) (k : Slr Ty.i64 K (sv b) p1.draws) (l : Slr fV K (sv c) p3.cases) (m : Slr Ty.i64 K (sv d) p3.draws) :
  Fc Tryz.prog 103 #[(sv e), (.agg (fj p1 a b).toArray), (.agg (fe p2).toArray), (.agg (fj p3 c d).toArray), (.agg (fe p4).toArray)] K (G) (fun v o n => v = (.bool f) ∧ K = o ∧ G = n) := by
 refine fO Tryz.func103 rfl Tryz.ntmps103 Tryz.results103 rfl ?_
 unfold qI at H
 refine fc<|fa<|?_
 refine ff rfl (fU (cs := (fj p1 a b)) rfl rfl rfl (fun s => ?_))
 refine ff rfl (fU (cs := (fe p2)) rfl rfl rfl (fun t => ?_))
 refine ff rfl (fU (cs := (fj p3 c d)) rfl rfl rfl (fun u => ?_))
 refine ff rfl (fU (cs := (fe p4)) rfl rfl rfl (fun w => ?_))
 refine Ea Z<|fb<|fc<|fa<|Em Z<|EL 7 (fj p1 a b) Z (Rb3 Z)<|EL 5 (fe p2) Z (Rb2 Z)<|EL 7 (fj p3 c d) Z (Rb1 Z)<|EL 5 (fe p4) Z (Rb0 Z)<|?_
 obtain ⟨x19, q, H⟩ := bnd H
 refine ff rfl (Ek Tryz.call120 Z (xi p0 e p1 a b p2 p3 c d p4 x19 q _ _ i j k l m) ?_)
 rintro _ _ _ - ⟨rfl, rfl, rfl⟩
 refine Em Z ?_
 refine Ee Z ?_ ?_
 ·intro g
  have H := ift g H
  refine Ez Z<|Ez Z<|Ez Z<|Ez Z<|Ez Z<|Ez Z<|Et Z<|Ea Z<|fb<|fy<|?_
  obtain p := gm H
  subst f
  refine ⟨(.inl rfl), [(.bool true)], ⟨(.bool true), _, rfl, rfl, rfl⟩, ?_⟩
  exact Re0<|Re0<|Re0<|Re0<|Sd<|⟨rfl, rfl, rfl⟩
 ·intro g
  have H := f0 (btf g) H
  refine Vm Z<|VL 7 (fj p3 c d) Z (Rb1 Z)<|VL 5 (fe p4) Z (Rb0 Z)<|VL 7 (fj p1 a b) Z (Rb3 Z)<|VL 5 (fe p2) Z (Rb2 Z)<|?_
  obtain ⟨h, r, H⟩ := bnd H
  refine hY rfl rfl rfl rfl (Ek Tryz.call120 Z (xi p0 e p3 c d p4 p1 a b p2 h r _ _ i l m j k) ?_)
  rintro _ _ _ - ⟨rfl, rfl, rfl⟩
  refine Ef Z<|Ea Z<|fb<|fy<|?_
  obtain p := gm H
  subst f
  refine ⟨(.inl rfl), [(.bool h)], ⟨(.bool h), _, rfl, rfl, rfl⟩, ?_⟩
  exact Re0<|Re0<|Re0<|Re0<|Sd<|⟨rfl, rfl, rfl⟩
end Go.Hx
