
import Derived.Test.YtphoeijgpmlbpaaGreatDoorXZM
set_option linter.unusedVariables false
set_option linter.unusedSimpArgs false
namespace Go.Hx
open Go Go.Proofs
set_option maxRecDepth 10000
set_option maxHeartbeats 1000000
theorem CV (p0 : ad1) (g : SV) (p1 : Int) (e : fg) (H : rj p0 p1 = some e) (K : Kp) (G : List Ent) (f : Slr Ty.u8 K (sv g) p0) :
  Fc Tryz.prog 18 #[(sv g), (Vi p1)] K (G) (fun v b h => ∃ (j : Nat) (l : SV), v = (Vp j) ∧ K = b ∧ (.blk j 99 (fE e l)) :: G = h ∧ Slr Ty.u8 b (sv l) e.list) := by
 refine fN Tryz.func18 rfl Tryz.ntmps18 Tryz.results18 rfl ?_
 unfold rj at H
 refine fc<|fa<|Ea Z<|fb<|?_
 refine fz (fun m b h => ∃ (a : SV) (d : ad1), [(0, (sv a))] = m ∧ K = b ∧ G = h ∧ vK d = some e ∧ Slr Ty.u8 b (sv a) d) ?_ ?_
 ·refine fc<|fa<|Em Z<|Eq Z (gg (T := Ty.u8) f rfl rfl)<|Em Z<|Ec Z<|fb<|?_
  refine fm rfl ?_ ?_
  ·intro c
   obtain ⟨c, H⟩ := It c H
   refine fa<|Em Z<|Em Z<|?_
   obtain ⟨x17, k, H⟩ := bnd H
   have o := Slr.cut f k
   exact Eq Z (wZ (T := Ty.u8) f k rfl rfl rfl rfl)<|Ea Z<|fb<|Sd<|⟨_, by exact R1, (jz g 1 0 p1.toNat), x17, rfl, rfl, rfl, H, o⟩
  ·intro c
   obtain ⟨c, H⟩ := If c H
   exact ft<|Sd<|⟨_, by exact R1, g, p0, rfl, rfl, rfl, H, f⟩
 rintro _ _ _ - ⟨a, d, rfl, rfl, rfl, H, n⟩
 unfold vK at H
 refine fc<|fa<|Em Z<|Eq Z (fH (cs := (fE (fg.mk d 0 0) a)) rfl rfl rfl rfl rfl rfl)<|?_
 refine ff rfl (fR (cs := (fE (fg.mk d 0 0) a)) rfl rfl rfl (fun i => ?_))
 refine Ea Z<|fb<|fx<|?_
 obtain p := gn H
 subst e
 refine ⟨(.inl rfl), [(Vp i)], ⟨(Vp i), _, rfl, rfl, rfl⟩, ?_⟩
 exact Sd ⟨i, a, rfl, rfl, rfl, n⟩
theorem tl (b : Nat) (p0 : fg) (a : SV) (c : Bool) (H : om p0 = some c) (K : Kp) (G : List Ent) (f : Slr Ty.u8 K (sv a) p0.list) :
  Fc Tryz.prog 22 #[(Vp b)] K ((.blk b 99 (fE p0 a)) :: G) (fun v e d => v = (.bool c) ∧ K = e ∧ (.blk b 99 (fE p0 a)) :: G = d) := by
 refine fN Tryz.func22 rfl Tryz.ntmps22 Tryz.results22 rfl ?_
 unfold om at H
 refine fc<|fa<|Ea Z<|fb<|fc<|fq _ rfl (Ic Mb0 In0)<|Jm 0 Z<|Jq 1 Z (fD rfl)<|JF 2 1 Z<|Jl 3 (Vi p0.at_) Z (Rb0 Z)<|Jm 4 Z<|Jq 5 Z (fD rfl)<|JF 6 0 Z<|Jl 7 (sv a) Z (Rb0 Z)<|Jq 8 Z (gg (T := Ty.u8) f rfl rfl)<|Jc 9 Z<|Ja 10 Z<|Ad<|fx<|?_
 obtain g := gn H
 subst c
 refine ⟨(.inl rfl), [(.bool (dcd (p0.at_ < (p0.list.length : Int))))], ⟨(.bool (dcd (p0.at_ < (p0.list.length : Int)))), _, rfl, rfl, rfl⟩, ?_⟩
 exact Sd ⟨rfl, rfl, rfl⟩
theorem ja (d : Nat) (p0 : fg) (b : SV) (p1 : Int) (e : Int) (f : Int) (H : lj p0 p1 = some (e, f)) (K : Kp) (G : List Ent) (g : Slr Ty.u8 K (sv b) p0.list) :
  Fc Tryz.prog 23 #[(Vp d), (Vi p1)] K ((.blk d 99 (fE p0 b)) :: G) (fun v m l => v = (Vi e) ∧ K = m ∧ (.blk d 99 (fE (fg.mk p0.list f p0.value) b)) :: G = l) := by
 refine fN Tryz.func23 rfl Tryz.ntmps23 Tryz.results23 rfl ?_
 unfold lj at H
 refine fc<|fa<|Ea Z<|fb<|fc<|fc<|fa<|Em Z<|?_
 obtain ⟨x17, q, H⟩ := bnd H
 refine ff rfl (Ek Tryz.call22 Z (tl d p0 b x17 q _ _ g) ?_)
 rintro _ _ _ - ⟨rfl, rfl, rfl⟩
 refine Eq Z (gi rfl)<|fb<|?_
 refine fm rfl ?_ ?_
 ·intro a
  have a := ix a
  have H := fX (btf a) H
  refine fc<|fa<|Ea Z<|fb<|fx<|?_
  obtain ⟨n, o⟩ := hY H
  subst e f
  refine ⟨(.inl rfl), [(Vi 0)], ⟨(Vi 0), _, rfl, rfl, rfl⟩, ?_⟩
  exact Sd ⟨rfl, rfl, rfl⟩
 ·intro a
  have a := iw a
  have H := ift a H
  refine ft<|fc<|fa<|Em Z<|Eq Z (fD rfl)<|EF 1 Z<|El (Vi p0.at_) Z (Rb0 Z)<|Er (wI (p0.at_ + 1)) Z<|Eq Z (fD rfl)<|EF 1 Z<|?_
  refine ff rfl (So [(Vi (wI (p0.at_ + 1)))] (fE (fg.mk p0.list (wI (p0.at_ + 1)) p0.value) b) Z .here Z ?_)
  refine fb<|fc<|?_
  obtain ⟨i, h, H⟩ := bnd H
  obtain ⟨j, r, H⟩ := bnd H
  refine fq _ rfl (Ic Mb0 In0)<|Jm 0 Z<|Jq 1 Z (fD rfl)<|JF 2 0 Z<|Jl 3 (sv b) Z (Rb0 Z)<|Jm 4 Z<|Jq 5 Z (fD rfl)<|JF 6 1 Z<|Jl 7 (Vi (wI (p0.at_ + 1))) Z (Rb0 Z)<|Jr 8 (wI ((wI (p0.at_ + 1)) - 1)) Z<|?_
  obtain ⟨_, rfl, p⟩ := Slr.at g h
  refine Jq 9 Z (Qi (T := Ty.u8) g h Z)<|Jl 10 (.int .u8 i) Z (Rdc.k p rfl)<|Jq 11 Z (kJ (c := wI i) rfl rfl rfl rfl)<|Jm 12 Z<|Jq 13 Z (B2 r rfl rfl)<|Ja 14 Z<|Ad<|fx<|?_
  obtain ⟨n, o⟩ := hY H
  subst e f
  refine ⟨(.inl rfl), [(Vi j)], ⟨(Vi j), _, rfl, rfl, rfl⟩, ?_⟩
  exact Sd ⟨rfl, rfl, rfl⟩
theorem EQ (a : Nat) (p0 : fg) (h : SV) (w : fM) (D : Int) (E : Int) (H : sH p0 = some (w, D, E)) (K : Kp) (G : List Ent) (aH : Slr Ty.u8 K (sv h) p0.list) :
  Fc Tryz.prog 19 #[(Vp a)] K ((.blk a 99 (fE p0 h)) :: G) (fun v f s => ∃ (az : SV) (aA : SV), v = (.agg (fp w az aA).toArray) ∧ (.blk a 99 (fE (fg.mk p0.list D E) h)) :: (.tok 3 1 [(sv az)]) :: (.tok 36 1 [(sv aA)]) :: G = s ∧ Slr Ty.i64 f (sv az) w.capacities ∧ Slr Ty.u64 f (sv aA) w.starts) := by
 refine fN Tryz.func19 rfl Tryz.ntmps19 Tryz.results19 rfl ?_
 unfold sH at H
 refine fc<|fa<|?_
 refine ff rfl (fC (cs := (fp (fM.mk [] [] 0) fB fB)) rfl rfl rfl rfl (fun x => ?_))
 refine fb<|fc<|fa<|?_
 have ai : RowR Ty.i64 K [[(Vi 0)], [(Vi 1)], [(Vi 2)], [(Vi 0)], [(Vi 1)], [(Vi 3)]] [0, 1, 2, 0, 1, 3] := RowR.cons rfl (RowR.cons rfl (RowR.cons rfl (RowR.cons rfl (RowR.cons rfl (RowR.cons rfl (RowR.nil))))))
 refine ff rfl (gk (T := Ty.i64) (rows := [[(Vi 0)], [(Vi 1)], [(Vi 2)], [(Vi 0)], [(Vi 1)], [(Vi 3)]]) (l := [0, 1, 2, 0, 1, 3]) rfl rfl rfl ai rfl rfl rfl rfl rfl rfl rfl rfl (fun F => ?_))
 refine Ea Z<|fb<|fc<|fa<|?_
 have aj : RowR Ty.u64 K [[(.int .u64 0)], [(.int .u64 1)], [(.int .u64 9223372036854775807)], [(.int .u64 9223372036854775806)], [(.int .u64 4611686018427387904)], [(.int .u64 5)]] [0, 1, 9223372036854775807, 9223372036854775806, 4611686018427387904, 5] := RowR.cons rfl (RowR.cons rfl (RowR.cons rfl (RowR.cons rfl (RowR.cons rfl (RowR.cons rfl (RowR.nil))))))
 refine ff rfl (gk (T := Ty.u64) (rows := [[(.int .u64 0)], [(.int .u64 1)], [(.int .u64 9223372036854775807)], [(.int .u64 9223372036854775806)], [(.int .u64 4611686018427387904)], [(.int .u64 5)]]) (l := [0, 1, 9223372036854775807, 9223372036854775806, 4611686018427387904, 5]) rfl rfl rfl aj rfl rfl rfl rfl rfl rfl rfl rfl (fun I => ?_))
 refine Ea Z<|fb<|fc<|fa<|?_
 refine ff rfl (fC (cs := (fp (fM.mk [] [] 0) fB fB)) rfl rfl rfl rfl (fun y => ?_))
 refine fb ?_
 refine fz (fun B f s => ∃ (ac : Int) (ad : Int) (i : SV) (m : ad1) (j : SV) (n : ad1), [(0, (Vp a)), (2, (Vp x)), (5, (Vp y))] = B ∧ (.blk a 99 (fE (fg.mk p0.list ac ad) h)) :: (.blk y 27 (fp (fM.mk m n 0) i j)) :: (.blk x 27 (fp (fM.mk [] [] 0) fB fB)) :: (.tok 3 1 [(sv i)]) :: (.tok 36 1 [(sv j)]) :: G = s ∧ rk p0 ac ad m n = some (w, D, E) ∧ Slr Ty.i64 f (sv i) m ∧ Slr Ty.u64 f (sv j) n) ?_ ?_
 ·refine fc<|fa<|Ea Z<|fb<|fA<|?_
  refine f7 (fun aP B f s => ∃ (t : Int) (b : Int) (c : Int) (A : SV) (P : ad1) (g : SV) (o : ad1), [(0, (Vp a)), (2, (Vp x)), (3, (sv F)), (4, (sv I)), (5, (Vp y)), (6, (Vi t))] = B ∧ (.blk a 99 (fE (fg.mk p0.list b c) h)) :: (.blk y 27 (fp (fM.mk P o 0) A g)) :: (.blk x 27 (fp (fM.mk [] [] 0) fB fB)) :: (.tok 3 1 [(sv A)]) :: (.tok 36 1 [(sv g)]) :: (.row (sv I) 36 1 [[(.int .u64 0)], [(.int .u64 1)], [(.int .u64 9223372036854775807)], [(.int .u64 9223372036854775806)], [(.int .u64 4611686018427387904)], [(.int .u64 5)]].flatten) :: (.row (sv F) 3 1 [[(Vi 0)], [(Vi 1)], [(Vi 2)], [(Vi 0)], [(Vi 1)], [(Vi 3)]].flatten) :: G = s ∧ lp5 (rp p0) aP t b c P o = some (w, D, E) ∧ Slr Ty.i64 f (sv A) P ∧ Slr Ty.u64 f (sv g) o) BIG ?_ ?_
  ·exact Shift.nilTok1 3 1<|Shift.nilTok1 36 1<|Pu4<|Pu4<|Pu2<|Pu3<|Pu5<|Pu5<|Pu6<|Sd<|⟨_, by exact R6, 0, p0.at_, p0.value, fB, ([] : ad1), fB, ([] : ad1), rfl, rfl, H, (Slr.nil Ty.i64 _), (Slr.nil Ty.u64 _)⟩
  rintro aP _ ag _ N ⟨t, b, c, A, P, g, o, rfl, rfl, H, X, Y⟩
  obtain ⟨bE, aO, rfl, aW, H⟩ := EZ H
  unfold rp at H
  refine fc<|fc<|fa<|Em Z<|Em Z<|?_
  obtain ⟨bn, k, bl, H⟩ := ir H
  have O := aH.mono N
  refine ff rfl (Ek Tryz.call23 Z (ja a (fg.mk p0.list b c) h 3 bn k bl _ _ O) ?_)
  rintro _ _ _ - ⟨rfl, rfl, rfl⟩
  refine Ec Z<|fb<|?_
  refine fm rfl ?_ ?_
  ·intro M
   obtain ⟨M, H⟩ := It M H
   refine ft ?_
   refine fz (fun B f s => ∃ (ae : Int) (af : Int) (S : SV) (Q : ad1) (U : SV) (R : ad1), [(0, (Vp a)), (2, (Vp x)), (3, (sv F)), (4, (sv I)), (5, (Vp y)), (6, (Vi t))] = B ∧ (.blk a 99 (fE (fg.mk p0.list ae af) h)) :: (.blk y 27 (fp (fM.mk Q R 0) S U)) :: (.blk x 27 (fp (fM.mk [] [] 0) fB fB)) :: (.tok 3 1 [(sv S)]) :: (.tok 36 1 [(sv U)]) :: (.row (sv I) 36 1 [[(.int .u64 0)], [(.int .u64 1)], [(.int .u64 9223372036854775807)], [(.int .u64 9223372036854775806)], [(.int .u64 4611686018427387904)], [(.int .u64 5)]].flatten) :: (.row (sv F) 3 1 [[(Vi 0)], [(Vi 1)], [(Vi 2)], [(Vi 0)], [(Vi 1)], [(Vi 3)]].flatten) :: G = s ∧ rm t p0 aO ae af Q R = some (w, D, E) ∧ Slr Ty.i64 f (sv S) Q ∧ Slr Ty.u64 f (sv U) R) ?_ ?_
   ·refine fA ?_
    refine fz (fun B f s => ∃ (z : Int) (r : SV) (p : ad1), [(0, (Vp a)), (2, (Vp x)), (3, (sv F)), (4, (sv I)), (5, (Vp y)), (6, (Vi t))] = B ∧ (.blk a 99 (fE (fg.mk p0.list z ((fg.mk p0.list k ((fg.mk p0.list b c).value)).value)) h)) :: (.blk y 27 (fp (fM.mk p o 0) r g)) :: (.blk x 27 (fp (fM.mk [] [] 0) fB fB)) :: (.tok 3 1 [(sv r)]) :: (.tok 36 1 [(sv g)]) :: (.row (sv I) 36 1 [[(.int .u64 0)], [(.int .u64 1)], [(.int .u64 9223372036854775807)], [(.int .u64 9223372036854775806)], [(.int .u64 4611686018427387904)], [(.int .u64 5)]].flatten) :: (.row (sv F) 3 1 [[(Vi 0)], [(Vi 1)], [(Vi 2)], [(Vi 0)], [(Vi 1)], [(Vi 3)]].flatten) :: G = s ∧ rn t p0 k b c o aO z p = some (w, D, E) ∧ Slr Ty.i64 f (sv r) p) ?_ ?_
    ·obtain ⟨aR, W, aN, H⟩ := ir H
     obtain ⟨e, ab, H⟩ := bnd H
     obtain ⟨L, aq, H⟩ := bnd H
     refine fq _ rfl (Ic Mb2 (Ic Mb4 (Ic Mb5 (Ic Mb6 In0))))<|JF 0 0 Z<|Jm 2 Z<|Jm 3 Z<|?_
     refine gY 1 4 (by kernel_rfl) ?_ ?_
     ·refine id (Jyq Z (gv (v := (sv A)) rfl rfl rfl (Rb1 Z)) ⟨(Ic Mb2 (Ic Mb4 (Ic Mb5 (Ic Mb6 In0)))), ?_⟩)
      refine Ao 4 Z ?_
      refine Ek Tryz.call23 Z (ja a (fg.mk p0.list k ((fg.mk p0.list b c).value)) h 6 aR W aN _ _ O) ?_
      rintro _ _ _ - ⟨rfl, rfl, rfl⟩
      refine ⟨(Ic Mb2 (Ic Mb4 (Ic Mb5 (Ic Mb6 In0)))), ?_⟩
      have an := ai.mono N
      obtain ⟨bH, aK, aZ⟩ := RowR.at an ab
      obtain rfl := aZ
      refine Jq 5 Z (gz (T := Ty.i64) Mb3 an aK (fL ab).1 rfl rfl rfl rfl rfl)<|Jl 6 (Vi e) Z (gQ (T := Ty.i64) Mb3 an aK rfl rfl)<|?_
      refine Ao 7 Z ?_
      have aE : RowR Ty.i64 ag [[(Vi e)]] [e] := RowR.cons rfl (RowR.nil)
      refine gk (T := Ty.i64) (rows := [[(Vi e)]]) (l := [e]) rfl rfl rfl aE rfl rfl rfl rfl rfl rfl rfl rfl (fun bM => ⟨(Ic Mb3 (Ic Mb5 (Ic Mb6 (Ic Mb7 In0)))), ?_⟩)
      refine Ao 8 Z ?_
      refine ga (T := Ty.i64) (bytes := 8) (q := 0) rfl rfl rfl X Mb4 rfl (SrcT.row Mb0 aE rfl) aq rfl rfl rfl rfl rfl rfl rfl rfl (fun aw bt bB bh => ⟨_, (.there (.there (.there (.there .here)))), ⟨(Ic Mb3 (Ic Mb5 (Ic Mb6 (Ic Mb7 In0)))), ?_⟩⟩)
      refine Aw.shift (Re0 (Sd ⟨(Ic Mb2 (Ic Mb4 (Ic Mb5 (Ic Mb6 In0)))), ?_⟩))
      refine JF 9 0 Z ?_
      refine Ao 10 Z ?_
      refine So [(sv aw)] (fp (fM.mk L o 0) aw g) Z (.there .here) Z ⟨(Ic Mb2 (Ic Mb4 (Ic Mb5 (Ic Mb6 In0)))), ?_⟩
      exact Ad<|Pu6<|Pu6<|Pu6<|Pu6<|Pu6<|Pu6<|Pu6<|Sd<|⟨_, by exact R6, W, aw, L, rfl, rfl, H, bh⟩
     ·refine id (Jy Z ?_)
      refine Ek Tryz.call23 Z (ja a (fg.mk p0.list k ((fg.mk p0.list b c).value)) h 6 aR W aN _ _ O) ?_
      rintro _ _ _ - ⟨rfl, rfl, rfl⟩
      refine ⟨(Ic Mb2 (Ic Mb4 (Ic Mb5 (Ic Mb6 In0)))), ?_⟩
      have ao := ai.mono N
      obtain ⟨bI, aL, a0⟩ := RowR.at ao ab
      obtain rfl := a0
      refine Jq 5 Z (gz (T := Ty.i64) Mb3 ao aL (fL ab).1 rfl rfl rfl rfl rfl)<|Jl 6 (Vi e) Z (gQ (T := Ty.i64) Mb3 ao aL rfl rfl)<|?_
      refine gY 1 7 (by kernel_rfl) ?_ ?_
      ·refine id (Jyq Z (gv (v := (sv A)) rfl rfl rfl (Rb1 Z)) ⟨(Ic Mb2 (Ic Mb4 (Ic Mb5 (Ic Mb6 In0)))), ?_⟩)
       refine Ao 7 Z ?_
       have aF : RowR Ty.i64 ag [[(Vi e)]] [e] := RowR.cons rfl (RowR.nil)
       refine gk (T := Ty.i64) (rows := [[(Vi e)]]) (l := [e]) rfl rfl rfl aF rfl rfl rfl rfl rfl rfl rfl rfl (fun bN => ⟨(Ic Mb3 (Ic Mb5 (Ic Mb6 (Ic Mb7 In0)))), ?_⟩)
       refine Ao 8 Z ?_
       refine ga (T := Ty.i64) (bytes := 8) (q := 0) rfl rfl rfl X Mb4 rfl (SrcT.row Mb0 aF rfl) aq rfl rfl rfl rfl rfl rfl rfl rfl (fun ax bu bC bi => ⟨_, (.there (.there (.there (.there .here)))), ⟨(Ic Mb3 (Ic Mb5 (Ic Mb6 (Ic Mb7 In0)))), ?_⟩⟩)
       refine Aw.shift (Re0 (Sd ⟨(Ic Mb2 (Ic Mb4 (Ic Mb5 (Ic Mb6 In0)))), ?_⟩))
       refine JF 9 0 Z ?_
       refine Ao 10 Z ?_
       refine So [(sv ax)] (fp (fM.mk L o 0) ax g) Z (.there .here) Z ⟨(Ic Mb2 (Ic Mb4 (Ic Mb5 (Ic Mb6 In0)))), ?_⟩
       exact Ad<|Pu6<|Pu6<|Pu6<|Pu6<|Pu6<|Pu6<|Pu6<|Sd<|⟨_, by exact R6, W, ax, L, rfl, rfl, H, bi⟩
      ·refine id (Jy Z ?_)
       have aG : RowR Ty.i64 ag [[(Vi e)]] [e] := RowR.cons rfl (RowR.nil)
       refine gk (T := Ty.i64) (rows := [[(Vi e)]]) (l := [e]) rfl rfl rfl aG rfl rfl rfl rfl rfl rfl rfl rfl (fun bO => ⟨(Ic Mb3 (Ic Mb5 (Ic Mb6 (Ic Mb7 In0)))), ?_⟩)
       refine gB 1 (by kernel_rfl) (Jyq Z (gv (v := (sv A)) rfl rfl rfl (Rb2 Z)) ⟨(Ic Mb3 (Ic Mb5 (Ic Mb6 (Ic Mb7 In0)))), ?_⟩)
       refine Ao 8 Z ?_
       refine ga (T := Ty.i64) (bytes := 8) (q := 0) rfl rfl rfl X Mb4 rfl (SrcT.row Mb0 aG rfl) aq rfl rfl rfl rfl rfl rfl rfl rfl (fun ay bv bD bj => ⟨_, (.there (.there (.there (.there .here)))), ⟨(Ic Mb3 (Ic Mb5 (Ic Mb6 (Ic Mb7 In0)))), ?_⟩⟩)
       refine Aw.shift (Re0 (Sd ⟨(Ic Mb2 (Ic Mb4 (Ic Mb5 (Ic Mb6 In0)))), ?_⟩))
       refine JF 9 0 Z ?_
       refine Ao 10 Z ?_
       refine So [(sv ay)] (fp (fM.mk L o 0) ay g) Z (.there .here) Z ⟨(Ic Mb2 (Ic Mb4 (Ic Mb5 (Ic Mb6 In0)))), ?_⟩
       exact Ad<|Pu6<|Pu6<|Pu6<|Pu6<|Pu6<|Pu6<|Pu6<|Sd<|⟨_, by exact R6, W, ay, L, rfl, rfl, H, bj⟩
    rintro _ ah _ C ⟨z, r, p, rfl, rfl, H, am⟩
    unfold rn at H
    obtain ⟨aQ, V, aM, H⟩ := ir H
    obtain ⟨d, aa, H⟩ := bnd H
    obtain ⟨J, ap, H⟩ := bnd H
    refine fq _ rfl (Ic Mb2 (Ic Mb3 (Ic Mb5 (Ic Mb6 In0))))<|JF 0 1 Z<|Jm 2 Z<|Jm 3 Z<|?_
    refine gY 1 4 (by kernel_rfl) ?_ ?_
    ·refine id (Jyq Z (gv (v := (sv g)) rfl rfl rfl (Rb1 Z)) ⟨(Ic Mb2 (Ic Mb3 (Ic Mb5 (Ic Mb6 In0)))), ?_⟩)
     refine Ao 4 Z ?_
     have a1 := O.mono C
     refine Ek Tryz.call23 Z (ja a (fg.mk p0.list z ((fg.mk p0.list k ((fg.mk p0.list b c).value)).value)) h 6 aQ V aM _ _ a1) ?_
     rintro _ _ _ - ⟨rfl, rfl, rfl⟩
     refine ⟨(Ic Mb2 (Ic Mb3 (Ic Mb5 (Ic Mb6 In0)))), ?_⟩
     have ak := (aj.mono N).mono C
     obtain ⟨bF, aI, aX⟩ := RowR.at ak aa
     obtain rfl := aX
     refine Jq 5 Z (gz (T := Ty.u64) Mb2 ak aI (fL aa).1 rfl rfl rfl rfl rfl)<|Jl 6 (.int .u64 d) Z (gQ (T := Ty.u64) Mb2 ak aI rfl rfl)<|?_
     refine Ao 7 Z ?_
     have aB : RowR Ty.u64 ah [[(.int .u64 d)]] [d] := RowR.cons rfl (RowR.nil)
     refine gk (T := Ty.u64) (rows := [[(.int .u64 d)]]) (l := [d]) rfl rfl rfl aB rfl rfl rfl rfl rfl rfl rfl rfl (fun bJ => ⟨(Ic Mb3 (Ic Mb4 (Ic Mb6 (Ic Mb7 In0)))), ?_⟩)
     refine Ao 8 Z ?_
     have a3 := Y.mono C
     refine ga (T := Ty.u64) (bytes := 8) (q := 0) rfl rfl rfl a3 Mb5 rfl (SrcT.row Mb0 aB rfl) ap rfl rfl rfl rfl rfl rfl rfl rfl (fun ar bo aS a2 => ⟨_, (.there (.there (.there (.there (.there .here))))), ⟨(Ic Mb3 (Ic Mb4 (Ic Mb6 (Ic Mb7 In0)))), ?_⟩⟩)
     refine Aw.shift (Re0 (Sd ⟨(Ic Mb2 (Ic Mb3 (Ic Mb5 (Ic Mb6 In0)))), ?_⟩))
     refine JF 9 1 Z ?_
     refine Ao 10 Z ?_
     refine So [(sv ar)] (fp (fM.mk p J 0) r ar) Z (.there .here) Z ⟨(Ic Mb2 (Ic Mb3 (Ic Mb5 (Ic Mb6 In0)))), ?_⟩
     refine Ad<|Pu6<|Pu6<|Pu6<|Pu6<|Pu6<|Pu6<|Pu6<|?_
     have a4 := am.mono aS
     exact Sd ⟨_, by exact R6, V, ((fg.mk p0.list z ((fg.mk p0.list k ((fg.mk p0.list b c).value)).value)).value), r, p, ar, J, rfl, rfl, H, a4, a2⟩
    ·refine id (Jy Z ?_)
     have a5 := O.mono C
     refine Ek Tryz.call23 Z (ja a (fg.mk p0.list z ((fg.mk p0.list k ((fg.mk p0.list b c).value)).value)) h 6 aQ V aM _ _ a5) ?_
     rintro _ _ _ - ⟨rfl, rfl, rfl⟩
     refine ⟨(Ic Mb2 (Ic Mb3 (Ic Mb5 (Ic Mb6 In0)))), ?_⟩
     have al := (aj.mono N).mono C
     obtain ⟨bG, aJ, aY⟩ := RowR.at al aa
     obtain rfl := aY
     refine Jq 5 Z (gz (T := Ty.u64) Mb2 al aJ (fL aa).1 rfl rfl rfl rfl rfl)<|Jl 6 (.int .u64 d) Z (gQ (T := Ty.u64) Mb2 al aJ rfl rfl)<|?_
     refine gY 1 7 (by kernel_rfl) ?_ ?_
     ·refine id (Jyq Z (gv (v := (sv g)) rfl rfl rfl (Rb1 Z)) ⟨(Ic Mb2 (Ic Mb3 (Ic Mb5 (Ic Mb6 In0)))), ?_⟩)
      refine Ao 7 Z ?_
      have aC : RowR Ty.u64 ah [[(.int .u64 d)]] [d] := RowR.cons rfl (RowR.nil)
      refine gk (T := Ty.u64) (rows := [[(.int .u64 d)]]) (l := [d]) rfl rfl rfl aC rfl rfl rfl rfl rfl rfl rfl rfl (fun bK => ⟨(Ic Mb3 (Ic Mb4 (Ic Mb6 (Ic Mb7 In0)))), ?_⟩)
      refine Ao 8 Z ?_
      have a7 := Y.mono C
      refine ga (T := Ty.u64) (bytes := 8) (q := 0) rfl rfl rfl a7 Mb5 rfl (SrcT.row Mb0 aC rfl) ap rfl rfl rfl rfl rfl rfl rfl rfl (fun au bp aT a6 => ⟨_, (.there (.there (.there (.there (.there .here))))), ⟨(Ic Mb3 (Ic Mb4 (Ic Mb6 (Ic Mb7 In0)))), ?_⟩⟩)
      refine Aw.shift (Re0 (Sd ⟨(Ic Mb2 (Ic Mb3 (Ic Mb5 (Ic Mb6 In0)))), ?_⟩))
      refine JF 9 1 Z ?_
      refine Ao 10 Z ?_
      refine So [(sv au)] (fp (fM.mk p J 0) r au) Z (.there .here) Z ⟨(Ic Mb2 (Ic Mb3 (Ic Mb5 (Ic Mb6 In0)))), ?_⟩
      refine Ad<|Pu6<|Pu6<|Pu6<|Pu6<|Pu6<|Pu6<|Pu6<|?_
      have a8 := am.mono aT
      exact Sd ⟨_, by exact R6, V, ((fg.mk p0.list z ((fg.mk p0.list k ((fg.mk p0.list b c).value)).value)).value), r, p, au, J, rfl, rfl, H, a8, a6⟩
     ·refine id (Jy Z ?_)
      have aD : RowR Ty.u64 ah [[(.int .u64 d)]] [d] := RowR.cons rfl (RowR.nil)
      refine gk (T := Ty.u64) (rows := [[(.int .u64 d)]]) (l := [d]) rfl rfl rfl aD rfl rfl rfl rfl rfl rfl rfl rfl (fun bL => ⟨(Ic Mb3 (Ic Mb4 (Ic Mb6 (Ic Mb7 In0)))), ?_⟩)
      refine gB 1 (by kernel_rfl) (Jyq Z (gv (v := (sv g)) rfl rfl rfl (Rb2 Z)) ⟨(Ic Mb3 (Ic Mb4 (Ic Mb6 (Ic Mb7 In0)))), ?_⟩)
      refine Ao 8 Z ?_
      have ba := Y.mono C
      refine ga (T := Ty.u64) (bytes := 8) (q := 0) rfl rfl rfl ba Mb5 rfl (SrcT.row Mb0 aD rfl) ap rfl rfl rfl rfl rfl rfl rfl rfl (fun av bq aU a9 => ⟨_, (.there (.there (.there (.there (.there .here))))), ⟨(Ic Mb3 (Ic Mb4 (Ic Mb6 (Ic Mb7 In0)))), ?_⟩⟩)
      refine Aw.shift (Re0 (Sd ⟨(Ic Mb2 (Ic Mb3 (Ic Mb5 (Ic Mb6 In0)))), ?_⟩))
      refine JF 9 1 Z ?_
      refine Ao 10 Z ?_
      refine So [(sv av)] (fp (fM.mk p J 0) r av) Z (.there .here) Z ⟨(Ic Mb2 (Ic Mb3 (Ic Mb5 (Ic Mb6 In0)))), ?_⟩
      refine Ad<|Pu6<|Pu6<|Pu6<|Pu6<|Pu6<|Pu6<|Pu6<|?_
      have bb := am.mono aU
      exact Sd ⟨_, by exact R6, V, ((fg.mk p0.list z ((fg.mk p0.list k ((fg.mk p0.list b c).value)).value)).value), r, p, av, J, rfl, rfl, H, bb, a9⟩
   rintro _ br _ bA ⟨ae, af, S, Q, U, R, rfl, rfl, H, bf, bg⟩
   unfold rm at H
   exact fa<|Em Z<|Er (wI (t + 1)) Z<|Ea Z<|fb<|Pu6<|Pu6<|Pu6<|Pu6<|Pu6<|Pu6<|Pu6<|Sd<|⟨_, by exact R6, _, Nat.lt_succ_self _, (wI (t + 1)), ae, af, S, Q, U, R, rfl, rfl, (aW ▸ H), bf, bg⟩
  ·intro M
   obtain ⟨M, H⟩ := If M H
   exact f9<|Pu4<|Pu4<|Pu4<|Pu4<|Pu4<|Re5<|Re5<|Sd<|⟨_, by exact R3, k, ((fg.mk p0.list b c).value), A, P, g, o, rfl, rfl, H, X, Y⟩
 rintro _ bs _ aV ⟨ac, ad, i, m, j, n, rfl, rfl, H, bd, be⟩
 unfold rk at H
 refine fc<|fa<|Em Z<|?_
 obtain ⟨u, bm, bk, H⟩ := ir H
 have bc := aH.mono aV
 refine ff rfl (Ek Tryz.call23 Z (ja a (fg.mk p0.list ac ad) h 3 u bm bk _ _ bc) ?_)
 rintro _ _ _ - ⟨rfl, rfl, rfl⟩
 refine Er (wI (2 + u)) Z<|EF 2 Z<|?_
 refine ff rfl (So [(Vi (wI (2 + u)))] (fp (fM.mk m n (wI (2 + u))) i j) Z (.there .here) Z ?_)
 refine fb<|fc<|fa<|EL 3 (fp (fM.mk m n (wI (2 + u))) i j) Z (Rb1 Z)<|?_
 refine ff rfl (Sa (fp (fM.mk m n (wI (2 + u))) i j) Z (.there (.there .here)) Z ?_)
 refine fb<|fx<|?_
 obtain ⟨bw, bx, bz⟩ := jP H
 subst w D E
 refine ⟨(.inl rfl), [(.agg (fp (fM.mk m n (wI (2 + u))) i j).toArray)], ⟨(.agg (fp (fM.mk m n (wI (2 + u))) i j).toArray), _, rfl, ⟨_, 3, (fp (fM.mk m n (wI (2 + u))) i j), rfl, rfl, rfl, rfl, ⟨rfl, Rb2 Z⟩, rfl⟩, rfl⟩, ?_⟩
 exact Pu4<|Pu4<|Pu2<|Re3<|Re3<|Sd<|⟨i, j, rfl, rfl, bd, be⟩
theorem kK (a : Nat) (p0 : fg) (b : SV) (p1 : fM) (e : SV) (k : SV) (f : Int) (g : Int) (h : Int) (H : mB p0 p1 = some (f, g, h)) (K : Kp) (G : List Ent) (j : Slr Ty.u8 K (sv b) p0.list) (q : Slr Ty.i64 K (sv e) p1.capacities) (B : Slr Ty.u64 K (sv k) p1.starts) :
  Fc Tryz.prog 70 #[(Vp a), (.agg (fp p1 e k).toArray)] K ((.blk a 99 (fE p0 b)) :: G) (fun v s r => v = (Vi f) ∧ K = s ∧ (.blk a 99 (fE (fg.mk p0.list g h) b)) :: G = r) := by
 refine fN Tryz.func70 rfl Tryz.ntmps70 Tryz.results70 rfl ?_
 unfold mB at H
 refine fc<|fa<|?_
 refine ff rfl (fR (cs := (fp p1 e k)) rfl rfl rfl (fun A => ?_))
 refine Ea Z<|fb<|fc<|fc<|fa<|Em Z<|?_
 obtain ⟨x, l, t, H⟩ := ir H
 refine Ow.shift (Pu1 (Sd ?_))
 refine ff rfl (Ek Tryz.call23 Z (ja a p0 b 16 x l t _ _ j) ?_)
 rintro _ _ _ - ⟨rfl, rfl, rfl⟩
 refine Ec Z<|fb<|?_
 refine fm rfl ?_ ?_
 ·intro c
  obtain ⟨c, H⟩ := It c H
  refine fc<|fa<|Em Z<|?_
  obtain ⟨i, y, u, H⟩ := ir H
  refine ff rfl (Ek Tryz.call23 Z (ja a (fg.mk p0.list l p0.value) b 9 i y u _ _ j) ?_)
  rintro _ _ _ - ⟨rfl, rfl, rfl⟩
  refine Er (wI (i - 1)) Z<|Ea Z<|fb<|fx<|?_
  obtain ⟨n, o, p⟩ := jP H
  subst f g h
  refine ⟨(.inl rfl), [(Vi (wI (i - 1)))], ⟨(Vi (wI (i - 1))), _, rfl, rfl, rfl⟩, ?_⟩
  exact Re1<|Sd<|⟨rfl, rfl, rfl⟩
 ·intro c
  obtain ⟨c, H⟩ := If c H
  refine ft<|fc<|fc<|fa<|EF 0 Z<|El (sv e) Z (Rb1 Z)<|Eq Z (gg (T := Ty.i64) q rfl rfl)<|Ec Z<|fb<|?_
  refine fm rfl ?_ ?_
  ·intro d
   obtain ⟨d, H⟩ := It d H
   refine fc<|fa<|Ea Z<|fb<|fx<|?_
   obtain ⟨n, o, p⟩ := jP H
   subst f g h
   refine ⟨(.inl rfl), [(Vi (-1))], ⟨(Vi (-1)), _, rfl, rfl, rfl⟩, ?_⟩
   exact Re1<|Sd<|⟨rfl, rfl, rfl⟩
  ·intro d
   obtain ⟨d, H⟩ := If d H
   refine ft<|fc<|fa<|Em Z<|EF 0 Z<|El (sv e) Z (Rb1 Z)<|Eq Z (gg (T := Ty.i64) q rfl rfl)<|?_
   obtain ⟨m, z, w, H⟩ := ir H
   refine ff rfl (Ek Tryz.call23 Z (ja a (fg.mk p0.list l p0.value) b (p1.capacities.length : Int) m z w _ _ j) ?_)
   rintro _ _ _ - ⟨rfl, rfl, rfl⟩
   refine Ea Z<|fb<|fx<|?_
   obtain ⟨n, o, p⟩ := jP H
   subst f g h
   refine ⟨(.inl rfl), [(Vi m)], ⟨(Vi m), _, rfl, rfl, rfl⟩, ?_⟩
   exact Re1<|Sd<|⟨rfl, rfl, rfl⟩
theorem yl (b : Nat) (p0 : fg) (a : SV) (c : Int) (d : Int) (H : rq p0 = some (c, d)) (K : Kp) (G : List Ent) (i : Slr Ty.u8 K (sv a) p0.list) :
  Fc Tryz.prog 71 #[(Vp b)] K ((.blk b 99 (fE p0 a)) :: G) (fun v f e => v = (.int .u64 c) ∧ K = f ∧ (.blk b 99 (fE (fg.mk p0.list p0.at_ d) a)) :: G = e) := by
 refine fN Tryz.func71 rfl Tryz.ntmps71 Tryz.results71 rfl ?_
 unfold rq at H
 refine fc<|fa<|Ea Z<|fb<|fc<|fa<|Em Z<|Eq Z (fD rfl)<|EF 2 Z<|El (.int .u64 p0.value) Z (Rb0 Z)<|Er (wU (p0.value + 1)) Z<|Eq Z (fD rfl)<|EF 2 Z<|?_
 refine ff rfl (So [(.int .u64 (wU (p0.value + 1)))] (fE (fg.mk p0.list p0.at_ (wU (p0.value + 1))) a) Z .here Z ?_)
 refine fb<|fc<|fa<|Em Z<|Eq Z (fD rfl)<|EF 2 Z<|El (.int .u64 (wU (p0.value + 1))) Z (Rb0 Z)<|Ea Z<|fb<|fx<|?_
 obtain ⟨g, h⟩ := hY H
 subst c d
 refine ⟨(.inl rfl), [(.int .u64 (wU (p0.value + 1)))], ⟨(.int .u64 (wU (p0.value + 1))), _, rfl, rfl, rfl⟩, ?_⟩
 exact Sd ⟨rfl, rfl, rfl⟩
theorem xd (c : Nat) (p0 : fg) (j : SV) (p1 : Op) (a : SV) (b : SV) (l : Op) (r : Int) (s : Int) (H : mC p0 p1 = some (l, r, s)) (K : Kp) (G : List Ent) (D : Slr Ty.u8 K (sv j) p0.list) (J : Slr fW K (sv a) p1.cases) (L : Slr Ty.i64 K (sv b) p1.draws) :
  Fc Tryz.prog 69 #[(Vp c), (.agg (fh p1 a b).toArray)] K ((.blk c 99 (fE p0 j)) :: G) (fun v i n => ∃ (E : SV) (F : SV), v = (.agg (fh l E F).toArray) ∧ K = i ∧ (.blk c 99 (fE (fg.mk p0.list r s) j)) :: G = n ∧ Slr fW i (sv E) l.cases ∧ Slr Ty.i64 i (sv F) l.draws) := by
 refine fN Tryz.func69 rfl Tryz.ntmps69 Tryz.results69 rfl ?_
 unfold mC at H
 refine fc<|fa<|?_
 refine ff rfl (fR (cs := (fh p1 a b)) rfl rfl rfl (fun t => ?_))
 refine ff rfl (fC (cs := (fh (Op.mk 0 0 0 0 0 [] []) fB fB)) rfl rfl rfl rfl (fun u => ?_))
 refine fb ?_
 refine fz (fun x i n => ∃ (z : Int) (A : Int) (m : Int) (B : Int) (d : Int) (e : Int) (f : Int) (g : Int) (h : Int), [(3, (Vp t)), (4, (Vp u))] = x ∧ K = i ∧ (.blk c 99 (fE (fg.mk p0.list z A) j)) :: (.blk u 51 (fh (Op.mk m m m B m [] []) fB fB)) :: (.blk t 51 (fh (Op.mk d e f g h p1.cases p1.draws) a b)) :: G = n ∧ lO p0 p1 z A m B d e f g h = some (l, r, s)) ?_ ?_
 ·refine fc<|fa<|Em Z<|?_
  obtain ⟨q, k, M, H⟩ := ir H
  refine Ow.shift (Pu2 (Sd ?_))
  refine ff rfl (Ek Tryz.call23 Z (ja c p0 j 8 q k M _ _ D) ?_)
  rintro _ _ _ - ⟨rfl, rfl, rfl⟩
  refine fb<|fA<|?_
  refine fz (fun x i n => ∃ (C : Bool), [(0, (Vp c)), (3, (Vp t)), (4, (Vp u)), (6, (Vi q)), (7, (.bool C))] = x ∧ K = i ∧ (.blk c 99 (fE (fg.mk p0.list k p0.value) j)) :: (.blk u 51 (fh (Op.mk 0 0 0 0 0 [] []) fB fB)) :: (.blk t 51 (fh p1 a b)) :: G = n ∧ pD q p0 k p1 C = some (l, r, s)) ?_ ?_
  ·refine fc<|fa<|Ec Z<|Ea Z<|fb<|?_
   refine fm rfl ?_ ?_
   ·intro o
    obtain ⟨o, H⟩ := It o H
    exact ft<|Pu2<|Pu2<|Pu2<|Sd<|⟨_, by exact R5, (dcd (q = 5)), rfl, rfl, rfl, H⟩
   ·intro o
    obtain ⟨o, H⟩ := If o H
    exact fa<|Ec Z<|Ea Z<|fb<|Pu2<|Pu2<|Pu2<|Sd<|⟨_, by exact R5, (dcd (q = 6)), rfl, rfl, rfl, H⟩
  rintro _ _ _ - ⟨C, rfl, rfl, rfl, H⟩
  unfold pD at H
  refine fm rfl ?_ ?_
  ·intro y
   have H := ift y H
   refine fa<|EF 1 Z<|?_
   refine ff rfl (So [(Vi 1)] (fh (Op.mk p1.kind 1 p1.channel p1.value p1.deadline p1.cases p1.draws) a b) Z (.there (.there .here)) Z ?_)
   exact fb<|Pu2<|Pu2<|Pu2<|Sd<|⟨_, by exact R2, k, p0.value, 0, 0, p1.kind, 1, p1.channel, p1.value, p1.deadline, rfl, rfl, rfl, H⟩
  ·intro y
   have H := fX (btf y) H
   refine fc<|fa<|Ec Z<|Ea Z<|fb<|?_
   refine fm rfl ?_ ?_
   ·intro p
    obtain ⟨p, H⟩ := It p H
    refine fa<|Em Z<|?_
    obtain ⟨w, I, N, H⟩ := ir H
    refine ff rfl (Ek Tryz.call23 Z (ja c (fg.mk p0.list k p0.value) j 5 w I N _ _ D) ?_)
    rintro _ _ _ - ⟨rfl, rfl, rfl⟩
    refine EF 1 Z ?_
    refine ff rfl (So [(Vi 2)] (fh (Op.mk p1.kind 2 p1.channel p1.value p1.deadline p1.cases p1.draws) a b) Z (.there (.there .here)) Z ?_)
    refine EF 4 Z ?_
    refine ff rfl (So [(Vi w)] (fh (Op.mk p1.kind 2 p1.channel p1.value w p1.cases p1.draws) a b) Z (.there (.there .here)) Z ?_)
    exact fb<|Pu2<|Pu2<|Pu2<|Sd<|⟨_, by exact R2, I, ((fg.mk p0.list k p0.value).value), 0, 0, p1.kind, 2, p1.channel, p1.value, w, rfl, rfl, rfl, H⟩
   ·intro p
    obtain ⟨p, H⟩ := If p H
    exact ft<|Pu2<|Pu2<|Pu2<|Sd<|⟨_, by exact R2, k, p0.value, 0, 0, p1.kind, p1.mode, p1.channel, p1.value, p1.deadline, rfl, rfl, rfl, H⟩
 rintro _ _ _ - ⟨z, A, m, B, d, e, f, g, h, rfl, rfl, rfl, H⟩
 unfold lO at H
 refine fc<|fa<|EL 7 (fh (Op.mk d e f g h p1.cases p1.draws) a b) Z (Rb2 Z)<|?_
 refine ff rfl (Sa (fh (Op.mk d e f g h p1.cases p1.draws) a b) Z (.there .here) Z ?_)
 refine fb<|fx<|?_
 obtain ⟨O, P, Q⟩ := jP H
 subst l r s
 refine ⟨(.inl rfl), [(.agg (fh (Op.mk d e f g h p1.cases p1.draws) a b).toArray)], ⟨(.agg (fh (Op.mk d e f g h p1.cases p1.draws) a b).toArray), _, rfl, ⟨_, 7, (fh (Op.mk d e f g h p1.cases p1.draws) a b), rfl, rfl, rfl, rfl, ⟨rfl, Rb1 Z⟩, rfl⟩, rfl⟩, ?_⟩
 exact Re1<|Re1<|Sd<|⟨a, b, rfl, rfl, rfl, J, L⟩
theorem EM (a : Nat) (p0 : fg) (b : SV) (p1 : fM) (k : SV) (m : SV) (p2 : Int) (w : Op) (F : Int) (I : Int) (H : m8 p0 p1 p2 = some (w, F, I)) (K : Kp) (G : List Ent) (aI : Slr Ty.u8 K (sv b) p0.list) (av : Slr Ty.i64 K (sv k) p1.capacities) (aw : Slr Ty.u64 K (sv m) p1.starts) :
  Fc Tryz.prog 72 #[(Vp a), (.agg (fp p1 k m).toArray), (Vi p2)] K ((.blk a 99 (fE p0 b)) :: G) (fun v c i => ∃ (aN : SV) (aO : SV), v = (.agg (fh w aN aO).toArray) ∧ (.blk a 99 (fE (fg.mk p0.list F I) b)) :: G = i ∧ Slr fW c (sv aN) w.cases ∧ Slr Ty.i64 c (sv aO) w.draws) := by
 refine fN Tryz.func72 rfl Tryz.ntmps72 Tryz.results72 rfl ?_
 unfold m8 at H
 refine fc<|fa<|?_
 refine ff rfl (fR (cs := (fp p1 k m)) rfl rfl rfl (fun A => ?_))
 refine ff rfl (fC (cs := (fh (Op.mk 0 0 0 0 0 [] []) fB fB)) rfl rfl rfl rfl (fun o => ?_))
 refine fb<|fc<|fa<|Eq Z (fH (cs := (fh (Op.mk 4 0 0 0 0 [] []) fB fB)) rfl rfl rfl rfl rfl rfl)<|?_
 refine ff rfl (fC (cs := (fh (Op.mk 0 0 0 0 0 [] []) fB fB)) rfl rfl rfl rfl (fun p => ?_))
 refine ff rfl (Sa (fh (Op.mk 4 0 0 0 0 [] []) fB fB) Z .here Z ?_)
 refine fb ?_
 refine fz (fun x c i => ∃ (al : Int) (am : Int) (R : SV) (P : af4) (S : SV) (Q : ad1), [(0, (Vp a)), (6, (Vp o)), (7, (Vp p))] = x ∧ (.blk a 99 (fE (fg.mk p0.list al am) b)) :: (.blk p 51 (fh (Op.mk 4 0 0 0 0 P Q) R S)) :: (.blk o 51 (fh (Op.mk 0 0 0 0 0 [] []) fB fB)) :: (.tok 108 3 [(sv R)]) :: (.tok 3 1 [(sv S)]) :: G = i ∧ oo p0 al am P Q = some (w, F, I) ∧ Slr fW c (sv R) P ∧ Slr Ty.i64 c (sv S) Q) ?_ ?_
 ·refine fc<|fa<|Ea Z<|fb<|fA<|?_
  refine f7 (fun aM x c i => ∃ (d : Int) (r : Int) (s : Int) (u : SV) (z : af4) (f : SV) (t : ad1), [(0, (Vp a)), (2, (Vi p2)), (4, (Vp A)), (6, (Vp o)), (7, (Vp p)), (8, (Vi d))] = x ∧ (.blk a 99 (fE (fg.mk p0.list r s) b)) :: (.blk p 51 (fh (Op.mk 4 0 0 0 0 z t) u f)) :: (.blk o 51 (fh (Op.mk 0 0 0 0 0 [] []) fB fB)) :: (.blk A 27 (fp p1 k m)) :: (.tok 108 3 [(sv u)]) :: (.tok 3 1 [(sv f)]) :: G = i ∧ lp5 (ot p2 p0 p1) aM d r s z t = some (w, F, I) ∧ Slr fW c (sv u) z ∧ Slr Ty.i64 c (sv f) t) BIG ?_ ?_
  ·exact Shift.nilTok1 108 3<|Shift.nilTok1 3 1<|Pu1<|Pu4<|Pu4<|Pu4<|Pu5<|Sd<|⟨_, by exact R6, 0, p0.at_, p0.value, fB, ([] : af4), fB, ([] : ad1), rfl, rfl, H, (Slr.nil fW _), (Slr.nil Ty.i64 _)⟩
  rintro aM _ aq _ J ⟨d, r, s, u, z, f, t, rfl, rfl, H, aJ, ak⟩
  obtain ⟨bD, aA, rfl, aX, H⟩ := EZ H
  unfold ot at H
  refine fc<|fc<|fa<|Em Z<|Em Z<|Em Z<|Er (wI (p2 + 1)) Z<|?_
  obtain ⟨bq, L, bm, H⟩ := ir H
  have y := aI.mono J
  refine ff rfl (Ek Tryz.call23 Z (ja a (fg.mk p0.list r s) b (wI (p2 + 1)) bq L bm _ _ y) ?_)
  rintro _ _ _ - ⟨rfl, rfl, rfl⟩
  refine Ec Z<|fb<|?_
  refine fm rfl ?_ ?_
  ·intro Y
   obtain ⟨Y, H⟩ := It Y H
   refine ft ?_
   refine fz (fun x c i => ∃ (an : Int) (ao : Int) (ad : SV) (ab : af4) (ae : SV) (ac : ad1), [(0, (Vp a)), (2, (Vi p2)), (4, (Vp A)), (6, (Vp o)), (7, (Vp p)), (8, (Vi d))] = x ∧ (.blk a 99 (fE (fg.mk p0.list an ao) b)) :: (.blk p 51 (fh (Op.mk 4 0 0 0 0 ab ac) ad ae)) :: (.blk o 51 (fh (Op.mk 0 0 0 0 0 [] []) fB fB)) :: (.blk A 27 (fp p1 k m)) :: (.tok 108 3 [(sv ad)]) :: (.tok 3 1 [(sv ae)]) :: G = i ∧ oq p2 d p0 p1 aA an ao ab ac = some (w, F, I) ∧ Slr fW c (sv ad) ab ∧ Slr Ty.i64 c (sv ae) ac) ?_ ?_
   ·refine fA ?_
    refine fz (fun x c i => ∃ (X : Nat) (N : Int) (O : Int) (g : Bool) (j : Int), [(0, (Vp a)), (2, (Vi p2)), (4, (Vp A)), (6, (Vp o)), (7, (Vp p)), (8, (Vi d)), (9, (Vp X))] = x ∧ aq = c ∧ (.blk a 99 (fE (fg.mk p0.list N O) b)) :: (.blk X 108 (fk (Case.mk g j 0))) :: (.blk p 51 (fh (Op.mk 4 0 0 0 0 z t) u f)) :: (.blk o 51 (fh (Op.mk 0 0 0 0 0 [] []) fB fB)) :: (.blk A 27 (fp p1 k m)) :: (.tok 108 3 [(sv u)]) :: (.tok 3 1 [(sv f)]) :: G = i ∧ or p2 d p0 z t p1 aA N O g j = some (w, F, I)) ?_ ?_
    ·obtain ⟨n, ah, aK, H⟩ := ir H
     obtain ⟨h, U, V, ay, H⟩ := k7 H
     refine fq _ rfl (Ic Mb1 (Ic Mb2 (Ic Mb3 (Ic Mb4 (Ic Mb5 In0)))))<|Jm 0 Z<|Jm 3 Z<|JL 4 3 (fp p1 k m) Z (Rb2 Z)<|?_
     refine gY 1 7 (by kernel_rfl) ?_ ?_
     ·refine id (Jy Z ?_)
      refine Ek Tryz.call23 Z (ja a (fg.mk p0.list L ((fg.mk p0.list r s).value)) b 2 n ah aK _ _ y) ?_
      rintro _ _ _ - ⟨rfl, rfl, rfl⟩
      refine ⟨(Ic Mb1 (Ic Mb2 (Ic Mb3 (Ic Mb4 (Ic Mb5 In0))))), ?_⟩
      refine Jc 2 Z ?_
      refine gY 5 7 (by kernel_rfl) ?_ ?_
      ·refine id (Jy Z ?_)
       have a2 := av.mono J
       have a3 := aw.mono J
       refine Ek Tryz.call70 Z (kK a (fg.mk p0.list ah ((fg.mk p0.list L ((fg.mk p0.list r s).value)).value)) b p1 k m h U V ay _ _ y a2 a3) ?_
       rintro _ _ _ - ⟨rfl, rfl, rfl⟩
       refine ⟨(Ic Mb1 (Ic Mb2 (Ic Mb3 (Ic Mb4 (Ic Mb5 In0))))), ?_⟩
       refine Jq 6 Z (fH (cs := (fk (Case.mk (dcd (n = 1)) h 0))) rfl rfl rfl rfl rfl rfl) ?_
       refine Ao 7 Z ?_
       refine fC (cs := (fk (Case.mk false 0 0))) rfl rfl rfl rfl (fun aQ => ⟨(Ic Mb2 (Ic Mb3 (Ic Mb4 (Ic Mb5 (Ic Mb6 In0))))), ?_⟩)
       refine Ao 8 Z ?_
       refine Sa (fk (Case.mk (dcd (n = 1)) h 0)) Z .here Z ⟨(Ic Mb2 (Ic Mb3 (Ic Mb4 (Ic Mb5 (Ic Mb6 In0))))), ?_⟩
       exact Ad<|Pu6<|Pu6<|Pu6<|Pu6<|Pu6<|Pu5<|Pu6<|Sd<|⟨_, by exact R7, aQ, U, V, (dcd (n = 1)), h, rfl, rfl, rfl, H⟩
      ·refine id (Jy Z ?_)
       refine fC (cs := (fk (Case.mk false 0 0))) rfl rfl rfl rfl (fun aR => ⟨(Ic Mb2 (Ic Mb3 (Ic Mb4 (Ic Mb5 (Ic Mb6 In0))))), ?_⟩)
       refine Ao 5 Z ?_
       refine OpW.shift (Pu1 (Sd ?_))
       have a4 := av.mono J
       have a5 := aw.mono J
       refine Ek Tryz.call70 Z (kK a (fg.mk p0.list ah ((fg.mk p0.list L ((fg.mk p0.list r s).value)).value)) b p1 k m h U V ay _ _ y a4 a5) ?_
       rintro _ _ _ - ⟨rfl, rfl, rfl⟩
       refine ⟨(Ic Mb2 (Ic Mb3 (Ic Mb4 (Ic Mb5 (Ic Mb6 In0))))), ?_⟩
       refine Jq 6 Z (fH (cs := (fk (Case.mk (dcd (n = 1)) h 0))) rfl rfl rfl rfl rfl rfl) ?_
       refine Ao 8 Z ?_
       refine Sa (fk (Case.mk (dcd (n = 1)) h 0)) Z (.there .here) Z ⟨(Ic Mb2 (Ic Mb3 (Ic Mb4 (Ic Mb5 (Ic Mb6 In0))))), ?_⟩
       exact Ad<|Pu6<|Pu6<|Pu6<|Pu6<|Pu6<|Pu6<|Pu6<|Sd<|⟨_, by exact R7, aR, U, V, (dcd (n = 1)), h, rfl, rfl, rfl, H⟩
     ·refine id (Jy Z ?_)
      refine fC (cs := (fk (Case.mk false 0 0))) rfl rfl rfl rfl (fun aS => ⟨(Ic Mb2 (Ic Mb3 (Ic Mb4 (Ic Mb5 (Ic Mb6 In0))))), ?_⟩)
      refine Ao 1 Z ?_
      refine OpW.shift (Pu1 (Sd ?_))
      refine Ek Tryz.call23 Z (ja a (fg.mk p0.list L ((fg.mk p0.list r s).value)) b 2 n ah aK _ _ y) ?_
      rintro _ _ _ - ⟨rfl, rfl, rfl⟩
      refine ⟨(Ic Mb2 (Ic Mb3 (Ic Mb4 (Ic Mb5 (Ic Mb6 In0))))), ?_⟩
      refine Jc 2 Z ?_
      refine Ao 5 Z ?_
      have a6 := av.mono J
      have a7 := aw.mono J
      refine Ek Tryz.call70 Z (kK a (fg.mk p0.list ah ((fg.mk p0.list L ((fg.mk p0.list r s).value)).value)) b p1 k m h U V ay _ _ y a6 a7) ?_
      rintro _ _ _ - ⟨rfl, rfl, rfl⟩
      refine ⟨(Ic Mb2 (Ic Mb3 (Ic Mb4 (Ic Mb5 (Ic Mb6 In0))))), ?_⟩
      refine Jq 6 Z (fH (cs := (fk (Case.mk (dcd (n = 1)) h 0))) rfl rfl rfl rfl rfl rfl) ?_
      refine Ao 8 Z ?_
      refine Sa (fk (Case.mk (dcd (n = 1)) h 0)) Z (.there .here) Z ⟨(Ic Mb2 (Ic Mb3 (Ic Mb4 (Ic Mb5 (Ic Mb6 In0))))), ?_⟩
      exact Ad<|Pu6<|Pu6<|Pu6<|Pu6<|Pu6<|Pu6<|Pu6<|Sd<|⟨_, by exact R7, aS, U, V, (dcd (n = 1)), h, rfl, rfl, rfl, H⟩
    rintro _ _ _ - ⟨X, N, O, g, j, rfl, rfl, rfl, H⟩
    unfold or at H
    refine fz (fun x c i => ∃ (B : Int) (C : Int) (D : Int), [(0, (Vp a)), (2, (Vi p2)), (4, (Vp A)), (6, (Vp o)), (7, (Vp p)), (8, (Vi d)), (9, (Vp X))] = x ∧ aq = c ∧ (.blk a 99 (fE (fg.mk p0.list B C) b)) :: (.blk X 108 (fk (Case.mk g j D))) :: (.blk p 51 (fh (Op.mk 4 0 0 0 0 z t) u f)) :: (.blk o 51 (fh (Op.mk 0 0 0 0 0 [] []) fB fB)) :: (.blk A 27 (fp p1 k m)) :: (.tok 108 3 [(sv u)]) :: (.tok 3 1 [(sv f)]) :: G = i ∧ mD p2 d p0 g j z t p1 aA B C D = some (w, F, I)) ?_ ?_
    ·refine fc<|fa<|EF 0 Z<|El (.bool g) Z (Rb1 Z)<|fb<|?_
     refine fm rfl ?_ ?_
     ·intro au
      have H := ift au H
      refine fa<|Em Z<|?_
      obtain ⟨ap, aP, bn, H⟩ := ir H
      refine ff rfl (Ek Tryz.call71 Z (yl a (fg.mk p0.list N O) b ap aP bn _ _ y) ?_)
      rintro _ _ _ - ⟨rfl, rfl, rfl⟩
      refine EF 2 Z ?_
      refine ff rfl (So [(.int .u64 ap)] (fk (Case.mk g j ap)) Z (.there .here) Z ?_)
      exact fb<|Pu6<|Pu6<|Pu6<|Pu6<|Pu6<|Pu6<|Pu6<|Sd<|⟨_, by exact R7, ((fg.mk p0.list N O).at_), aP, ap, rfl, rfl, rfl, H⟩
     ·intro au
      have H := fX (btf au) H
      exact ft<|Pu6<|Pu6<|Pu6<|Pu6<|Pu6<|Pu6<|Pu6<|Sd<|⟨_, by exact R7, N, O, 0, rfl, rfl, rfl, H⟩
    rintro _ _ _ - ⟨B, C, D, rfl, rfl, rfl, H⟩
    unfold mD at H
    refine fc<|fa<|EF 5 Z<|El (sv u) Z (Rb2 Z)<|EL 3 (fk (Case.mk g j D)) Z (Rb1 Z)<|?_
    have aE : RowR fW aq [(fk (Case.mk g j D))] [(Case.mk g j D)] := RowR.cons rfl (RowR.nil)
    refine ff rfl (gk (T := fW) (rows := [(fk (Case.mk g j D))]) (l := [(Case.mk g j D)]) rfl rfl rfl aE rfl rfl rfl rfl rfl rfl rfl rfl (fun bE => ?_))
    obtain ⟨M, bo, H⟩ := bnd H
    refine ff rfl (ga (T := fW) (bytes := 24) (q := 0) rfl rfl rfl aJ Mb6 rfl (SrcT.row Mb0 aE rfl) bo rfl rfl rfl rfl rfl rfl rfl rfl (fun E ar aa ax => ⟨_, (.there (.there (.there (.there (.there (.there .here)))))), ?_⟩))
    refine Ow.shift (Re0 (Sd ?_))
    refine EF 5 Z ?_
    refine ff rfl (So [(sv E)] (fh (Op.mk 4 0 0 0 0 M t) E f) Z (.there (.there .here)) Z ?_)
    refine fb ?_
    obtain ⟨e, ai, aL, H⟩ := ir H
    obtain ⟨W, az, H⟩ := bnd H
    refine fq _ rfl (Ic Mb1 (Ic Mb3 (Ic Mb4 (Ic Mb5 In0))))<|JF 0 6 Z<|Jm 2 Z<|Jm 3 Z<|Jr 4 (wI (d + 1)) Z<|?_
    refine gY 1 5 (by kernel_rfl) ?_ ?_
    ·refine id (Jyq Z (gv (v := (sv f)) rfl rfl rfl (Rb2 Z)) ⟨(Ic Mb1 (Ic Mb3 (Ic Mb4 (Ic Mb5 In0)))), ?_⟩)
     refine Ao 5 Z ?_
     have a8 := y.mono aa
     refine Ek Tryz.call23 Z (ja a (fg.mk p0.list B C) b (wI (d + 1)) e ai aL _ _ a8) ?_
     rintro _ _ _ - ⟨rfl, rfl, rfl⟩
     refine ⟨(Ic Mb1 (Ic Mb3 (Ic Mb4 (Ic Mb5 In0)))), ?_⟩
     refine Ao 6 Z ?_
     have aF : RowR Ty.i64 ar [[(Vi e)]] [e] := RowR.cons rfl (RowR.nil)
     refine gk (T := Ty.i64) (rows := [[(Vi e)]]) (l := [e]) rfl rfl rfl aF rfl rfl rfl rfl rfl rfl rfl rfl (fun bF => ⟨(Ic Mb2 (Ic Mb4 (Ic Mb5 (Ic Mb6 In0)))), ?_⟩)
     refine Ao 7 Z ?_
     have ba := ak.mono aa
     refine ga (T := Ty.i64) (bytes := 8) (q := 0) rfl rfl rfl ba Mb7 rfl (SrcT.row Mb0 aF rfl) az rfl rfl rfl rfl rfl rfl rfl rfl (fun aB bt aT a9 => ⟨_, (.there (.there (.there (.there (.there (.there (.there .here))))))), ⟨(Ic Mb2 (Ic Mb4 (Ic Mb5 (Ic Mb6 In0)))), ?_⟩⟩)
     refine Aw.shift (Re0 (Sd ⟨(Ic Mb1 (Ic Mb3 (Ic Mb4 (Ic Mb5 In0)))), ?_⟩))
     refine JF 8 6 Z ?_
     refine Ao 9 Z ?_
     refine So [(sv aB)] (fh (Op.mk 4 0 0 0 0 M W) E aB) Z (.there (.there .here)) Z ⟨(Ic Mb1 (Ic Mb3 (Ic Mb4 (Ic Mb5 In0)))), ?_⟩
     refine Ad<|Pu6<|Pu6<|Pu6<|Pu6<|Pu6<|Pu5<|Re6<|?_
     have bb := ax.mono aT
     exact Sd ⟨_, by exact R6, ai, ((fg.mk p0.list B C).value), E, M, aB, W, rfl, rfl, H, bb, a9⟩
    ·refine id (Jy Z ?_)
     have bc := y.mono aa
     refine Ek Tryz.call23 Z (ja a (fg.mk p0.list B C) b (wI (d + 1)) e ai aL _ _ bc) ?_
     rintro _ _ _ - ⟨rfl, rfl, rfl⟩
     refine ⟨(Ic Mb1 (Ic Mb3 (Ic Mb4 (Ic Mb5 In0)))), ?_⟩
     refine gY 1 6 (by kernel_rfl) ?_ ?_
     ·refine id (Jyq Z (gv (v := (sv f)) rfl rfl rfl (Rb2 Z)) ⟨(Ic Mb1 (Ic Mb3 (Ic Mb4 (Ic Mb5 In0)))), ?_⟩)
      refine Ao 6 Z ?_
      have aG : RowR Ty.i64 ar [[(Vi e)]] [e] := RowR.cons rfl (RowR.nil)
      refine gk (T := Ty.i64) (rows := [[(Vi e)]]) (l := [e]) rfl rfl rfl aG rfl rfl rfl rfl rfl rfl rfl rfl (fun bG => ⟨(Ic Mb2 (Ic Mb4 (Ic Mb5 (Ic Mb6 In0)))), ?_⟩)
      refine Ao 7 Z ?_
      have be := ak.mono aa
      refine ga (T := Ty.i64) (bytes := 8) (q := 0) rfl rfl rfl be Mb7 rfl (SrcT.row Mb0 aG rfl) az rfl rfl rfl rfl rfl rfl rfl rfl (fun aC bu aU bd => ⟨_, (.there (.there (.there (.there (.there (.there (.there .here))))))), ⟨(Ic Mb2 (Ic Mb4 (Ic Mb5 (Ic Mb6 In0)))), ?_⟩⟩)
      refine Aw.shift (Re0 (Sd ⟨(Ic Mb1 (Ic Mb3 (Ic Mb4 (Ic Mb5 In0)))), ?_⟩))
      refine JF 8 6 Z ?_
      refine Ao 9 Z ?_
      refine So [(sv aC)] (fh (Op.mk 4 0 0 0 0 M W) E aC) Z (.there (.there .here)) Z ⟨(Ic Mb1 (Ic Mb3 (Ic Mb4 (Ic Mb5 In0)))), ?_⟩
      refine Ad<|Pu6<|Pu6<|Pu6<|Pu6<|Pu6<|Pu5<|Re6<|?_
      have bf := ax.mono aU
      exact Sd ⟨_, by exact R6, ai, ((fg.mk p0.list B C).value), E, M, aC, W, rfl, rfl, H, bf, bd⟩
     ·refine id (Jy Z ?_)
      have aH : RowR Ty.i64 ar [[(Vi e)]] [e] := RowR.cons rfl (RowR.nil)
      refine gk (T := Ty.i64) (rows := [[(Vi e)]]) (l := [e]) rfl rfl rfl aH rfl rfl rfl rfl rfl rfl rfl rfl (fun bH => ⟨(Ic Mb2 (Ic Mb4 (Ic Mb5 (Ic Mb6 In0)))), ?_⟩)
      refine gB 1 (by kernel_rfl) (Jyq Z (gv (v := (sv f)) rfl rfl rfl (Rb3 Z)) ⟨(Ic Mb2 (Ic Mb4 (Ic Mb5 (Ic Mb6 In0)))), ?_⟩)
      refine Ao 7 Z ?_
      have bh := ak.mono aa
      refine ga (T := Ty.i64) (bytes := 8) (q := 0) rfl rfl rfl bh Mb7 rfl (SrcT.row Mb0 aH rfl) az rfl rfl rfl rfl rfl rfl rfl rfl (fun aD bv aV bg => ⟨_, (.there (.there (.there (.there (.there (.there (.there .here))))))), ⟨(Ic Mb2 (Ic Mb4 (Ic Mb5 (Ic Mb6 In0)))), ?_⟩⟩)
      refine Aw.shift (Re0 (Sd ⟨(Ic Mb1 (Ic Mb3 (Ic Mb4 (Ic Mb5 In0)))), ?_⟩))
      refine JF 8 6 Z ?_
      refine Ao 9 Z ?_
      refine So [(sv aD)] (fh (Op.mk 4 0 0 0 0 M W) E aD) Z (.there (.there .here)) Z ⟨(Ic Mb1 (Ic Mb3 (Ic Mb4 (Ic Mb5 In0)))), ?_⟩
      refine Ad<|Pu6<|Pu6<|Pu6<|Pu6<|Pu6<|Pu5<|Re6<|?_
      have bi := ax.mono aV
      exact Sd ⟨_, by exact R6, ai, ((fg.mk p0.list B C).value), E, M, aD, W, rfl, rfl, H, bi, bg⟩
   rintro _ bw _ bC ⟨an, ao, ad, ab, ae, ac, rfl, rfl, H, a0, a1⟩
   unfold oq at H
   exact fa<|Em Z<|Er (wI (d + 1)) Z<|Ea Z<|fb<|Pu5<|Pu5<|Pu5<|Pu5<|Pu5<|Pu5<|Sd<|⟨_, by exact R6, _, Nat.lt_succ_self _, (wI (d + 1)), an, ao, ad, ab, ae, ac, rfl, rfl, (aX ▸ H), a0, a1⟩
  ·intro Y
   obtain ⟨Y, H⟩ := If Y H
   exact f9<|Pu5<|Pu5<|Pu4<|Pu4<|Pu4<|Re5<|Sd<|⟨_, by exact R3, L, ((fg.mk p0.list r s).value), u, z, f, t, rfl, rfl, H, aJ, ak⟩
 rintro _ bx _ aW ⟨al, am, R, P, S, Q, rfl, rfl, H, aY, aZ⟩
 unfold oo at H
 refine fc<|fa<|Em Z<|EL 7 (fh (Op.mk 4 0 0 0 0 P Q) R S) Z (Rb1 Z)<|?_
 obtain ⟨aj, br, bs, bp, H⟩ := k7 H
 have bj := aI.mono aW
 refine ff rfl (Ek Tryz.call69 Z (xd a (fg.mk p0.list al am) b (Op.mk 4 0 0 0 0 P Q) R S aj br bs bp _ _ bj aY aZ) ?_)
 rintro _ _ _ - ⟨af, ag, rfl, rfl, rfl, bk, bl⟩
 refine ff rfl (Sa (fh aj af ag) Z (.there (.there .here)) Z ?_)
 refine fb<|fx<|?_
 obtain ⟨bz, bA, bB⟩ := jP H
 subst w F I
 refine ⟨(.inl rfl), [(.agg (fh aj af ag).toArray)], ⟨(.agg (fh aj af ag).toArray), _, rfl, ⟨_, 7, (fh aj af ag), rfl, rfl, rfl, rfl, ⟨rfl, Rb2 Z⟩, rfl⟩, rfl⟩, ?_⟩
 exact Re1<|Re1<|Re1<|Re1<|Sd<|⟨af, ag, rfl, rfl, bk, bl⟩
end Go.Hx
namespace Go.Hx
open Go Go.Proofs
set_option maxRecDepth 10000
set_option maxHeartbeats 1000000
theorem xe (c : Nat) (p0 : fg) (d : SV) (p1 : fM) (a : SV) (b : SV) (f : Op) (g : Int) (h : Int) (H : m9 p0 p1 = some (f, g, h)) (K : Kp) (G : List Ent) (e : Slr Ty.u8 K (sv d) p0.list) (j : Slr Ty.i64 K (sv a) p1.capacities) (k : Slr Ty.u64 K (sv b) p1.starts) :
  Fc Tryz.prog 40 #[(Vp c), (.agg (fp p1 a b).toArray)] K ((.blk c 99 (fE p0 d)) :: G) (fun v O U => ∃ (P : SV) (Q : SV), v = (.agg (fh f P Q).toArray) ∧ (.blk c 99 (fE (fg.mk p0.list g h) d)) :: G = U ∧ Slr fW O (sv P) f.cases ∧ Slr Ty.i64 O (sv Q) f.draws) := by
 refine fN Tryz.func40 rfl Tryz.ntmps40 Tryz.results40 rfl ?_
 unfold m9 at H
 refine fc<|fa<|?_
 refine ff rfl (fR (cs := (fp p1 a b)) rfl rfl rfl (fun aC => ?_))
 refine ff rfl (fC (cs := (fh (Op.mk 0 0 0 0 0 [] []) fB fB)) rfl rfl rfl rfl (fun aD => ?_))
 refine fb<|fc<|fc<|fa<|Em Z<|?_
 obtain ⟨am, i, ac, H⟩ := ir H
 refine Ow.shift (Pu2 (Sd ?_))
 refine ff rfl (Ek Tryz.call23 Z (ja c p0 d 20 am i ac _ _ e) ?_)
 rintro _ _ _ - ⟨rfl, rfl, rfl⟩
 refine Ea Z<|fb<|fA<|fc<|fa<|Em Z<|Ec Z<|Ea Z<|fb<|?_
 refine fm rfl ?_ ?_
 ·intro r
  obtain ⟨r, H⟩ := It r H
  refine fc<|fa<|Em Z<|Em Z<|EL 3 (fp p1 a b) Z (Rb2 Z)<|?_
  obtain ⟨I, J, L, ad, H⟩ := k7 H
  refine ff rfl (Ek Tryz.call70 Z (kK c (fg.mk p0.list i p0.value) d p1 a b I J L ad _ _ e j k) ?_)
  rintro _ _ _ - ⟨rfl, rfl, rfl⟩
  refine Em Z ?_
  obtain ⟨M, R, ae, H⟩ := ir H
  refine ff rfl (Ek Tryz.call71 Z (yl c (fg.mk p0.list J L) d M R ae _ _ e) ?_)
  rintro _ _ _ - ⟨rfl, rfl, rfl⟩
  refine Eq Z (fH (cs := (fh (Op.mk 1 0 I M 0 [] []) fB fB)) rfl rfl rfl rfl rfl rfl) ?_
  obtain ⟨D, an, ao, af, H⟩ := k7 H
  refine ff rfl (Ek Tryz.call69 Z (xd c (fg.mk p0.list ((fg.mk p0.list J L).at_) R) d (Op.mk 1 0 I M 0 [] []) fB fB D an ao af _ _ e (Slr.nil fW _) (Slr.nil Ty.i64 _)) ?_)
  rintro _ _ _ - ⟨x, y, rfl, rfl, rfl, V, W⟩
  refine ff rfl (Sa (fh D x y) Z (.there .here) Z ?_)
  refine fb<|fx<|?_
  obtain ⟨o, p, q⟩ := jP H
  subst f g h
  refine ⟨(.inl rfl), [(.agg (fh D x y).toArray)], ⟨(.agg (fh D x y).toArray), _, rfl, ⟨_, 7, (fh D x y), rfl, rfl, rfl, rfl, ⟨rfl, Rb1 Z⟩, rfl⟩, rfl⟩, ?_⟩
  exact Re1<|Re1<|Sd<|⟨x, y, rfl, rfl, V, W⟩
 ·intro r
  obtain ⟨r, H⟩ := If r H
  refine fc<|fa<|Em Z<|Ec Z<|Ea Z<|fb<|?_
  refine fm rfl ?_ ?_
  ·intro s
   obtain ⟨s, H⟩ := It s H
   refine fc<|fa<|Em Z<|Em Z<|EL 3 (fp p1 a b) Z (Rb2 Z)<|?_
   obtain ⟨N, S, T, ag, H⟩ := k7 H
   refine ff rfl (Ek Tryz.call70 Z (kK c (fg.mk p0.list i p0.value) d p1 a b N S T ag _ _ e j k) ?_)
   rintro _ _ _ - ⟨rfl, rfl, rfl⟩
   refine Eq Z (fH (cs := (fh (Op.mk 2 0 N 0 0 [] []) fB fB)) rfl rfl rfl rfl rfl rfl) ?_
   obtain ⟨E, ap, aq, ah, H⟩ := k7 H
   refine ff rfl (Ek Tryz.call69 Z (xd c (fg.mk p0.list S T) d (Op.mk 2 0 N 0 0 [] []) fB fB E ap aq ah _ _ e (Slr.nil fW _) (Slr.nil Ty.i64 _)) ?_)
   rintro _ _ _ - ⟨z, A, rfl, rfl, rfl, X, Y⟩
   refine ff rfl (Sa (fh E z A) Z (.there .here) Z ?_)
   refine fb<|fx<|?_
   obtain ⟨o, p, q⟩ := jP H
   subst f g h
   refine ⟨(.inl rfl), [(.agg (fh E z A).toArray)], ⟨(.agg (fh E z A).toArray), _, rfl, ⟨_, 7, (fh E z A), rfl, rfl, rfl, rfl, ⟨rfl, Rb1 Z⟩, rfl⟩, rfl⟩, ?_⟩
   exact Re1<|Re1<|Sd<|⟨z, A, rfl, rfl, X, Y⟩
  ·intro s
   obtain ⟨s, H⟩ := If s H
   refine fc<|fa<|Em Z<|Ec Z<|Ea Z<|fb<|?_
   refine fm rfl ?_ ?_
   ·intro t
    obtain ⟨t, H⟩ := It t H
    refine fc<|fa<|Em Z<|EL 3 (fp p1 a b) Z (Rb2 Z)<|?_
    obtain ⟨F, ar, au, ai, H⟩ := k7 H
    refine ff rfl (Ek Tryz.call72 Z (EM c (fg.mk p0.list i p0.value) d p1 a b 4 F ar au ai _ _ e j k) ?_)
    rintro _ aB _ aE ⟨B, C, rfl, rfl, aa, ab⟩
    refine ff rfl (Sa (fh F B C) Z (.there .here) Z ?_)
    refine fb<|fx<|?_
    obtain ⟨o, p, q⟩ := jP H
    subst f g h
    refine ⟨(.inl rfl), [(.agg (fh F B C).toArray)], ⟨(.agg (fh F B C).toArray), _, rfl, ⟨_, 7, (fh F B C), rfl, rfl, rfl, rfl, ⟨rfl, Rb1 Z⟩, rfl⟩, rfl⟩, ?_⟩
    exact Re1<|Re1<|Sd<|⟨B, C, rfl, rfl, aa, ab⟩
   ·intro t
    obtain ⟨t, H⟩ := If t H
    refine fc<|fa<|Em Z<|Ec Z<|Ea Z<|fb<|?_
    refine fm rfl ?_ ?_
    ·intro u
     obtain ⟨u, H⟩ := It u H
     refine fc<|fa<|Em Z<|EL 3 (fp p1 a b) Z (Rb2 Z)<|?_
     obtain ⟨l, av, aw, aj, H⟩ := k7 H
     refine ff rfl (Ek Tryz.call70 Z (kK c (fg.mk p0.list i p0.value) d p1 a b l av aw aj _ _ e j k) ?_)
     rintro _ _ _ - ⟨rfl, rfl, rfl⟩
     refine Eq Z (fH (cs := (fh (Op.mk 3 0 l 0 0 [] []) fB fB)) rfl rfl rfl rfl rfl rfl) ?_
     refine ff rfl (Sa (fh (Op.mk 3 0 l 0 0 [] []) fB fB) Z (.there .here) Z ?_)
     refine fb<|fx<|?_
     obtain ⟨o, p, q⟩ := jP H
     subst f g h
     refine ⟨(.inl rfl), [(.agg (fh (Op.mk 3 0 l 0 0 [] []) fB fB).toArray)], ⟨(.agg (fh (Op.mk 3 0 l 0 0 [] []) fB fB).toArray), _, rfl, ⟨_, 7, (fh (Op.mk 3 0 l 0 0 [] []) fB fB), rfl, rfl, rfl, rfl, ⟨rfl, Rb1 Z⟩, rfl⟩, rfl⟩, ?_⟩
     exact Re1<|Re1<|Sd<|⟨fB, fB, rfl, rfl, (Slr.nil fW _), (Slr.nil Ty.i64 _)⟩
    ·intro u
     obtain ⟨u, H⟩ := If u H
     refine fc<|fa<|Em Z<|Ec Z<|Ea Z<|fb<|?_
     refine fm rfl ?_ ?_
     ·intro w
      obtain ⟨w, H⟩ := It w H
      refine fc<|fa<|Em Z<|EL 3 (fp p1 a b) Z (Rb2 Z)<|?_
      obtain ⟨m, ax, ay, ak, H⟩ := k7 H
      refine ff rfl (Ek Tryz.call70 Z (kK c (fg.mk p0.list i p0.value) d p1 a b m ax ay ak _ _ e j k) ?_)
      rintro _ _ _ - ⟨rfl, rfl, rfl⟩
      refine Eq Z (fH (cs := (fh (Op.mk 5 0 m 0 0 [] []) fB fB)) rfl rfl rfl rfl rfl rfl) ?_
      refine ff rfl (Sa (fh (Op.mk 5 0 m 0 0 [] []) fB fB) Z (.there .here) Z ?_)
      refine fb<|fx<|?_
      obtain ⟨o, p, q⟩ := jP H
      subst f g h
      refine ⟨(.inl rfl), [(.agg (fh (Op.mk 5 0 m 0 0 [] []) fB fB).toArray)], ⟨(.agg (fh (Op.mk 5 0 m 0 0 [] []) fB fB).toArray), _, rfl, ⟨_, 7, (fh (Op.mk 5 0 m 0 0 [] []) fB fB), rfl, rfl, rfl, rfl, ⟨rfl, Rb1 Z⟩, rfl⟩, rfl⟩, ?_⟩
      exact Re1<|Re1<|Sd<|⟨fB, fB, rfl, rfl, (Slr.nil fW _), (Slr.nil Ty.i64 _)⟩
     ·intro w
      obtain ⟨w, H⟩ := If w H
      refine ft<|fc<|fa<|Em Z<|EL 3 (fp p1 a b) Z (Rb2 Z)<|?_
      obtain ⟨n, az, aA, al, H⟩ := k7 H
      refine ff rfl (Ek Tryz.call70 Z (kK c (fg.mk p0.list i p0.value) d p1 a b n az aA al _ _ e j k) ?_)
      rintro _ _ _ - ⟨rfl, rfl, rfl⟩
      refine Eq Z (fH (cs := (fh (Op.mk 6 0 n 0 0 [] []) fB fB)) rfl rfl rfl rfl rfl rfl) ?_
      refine ff rfl (Sa (fh (Op.mk 6 0 n 0 0 [] []) fB fB) Z (.there .here) Z ?_)
      refine fb<|fx<|?_
      obtain ⟨o, p, q⟩ := jP H
      subst f g h
      refine ⟨(.inl rfl), [(.agg (fh (Op.mk 6 0 n 0 0 [] []) fB fB).toArray)], ⟨(.agg (fh (Op.mk 6 0 n 0 0 [] []) fB fB).toArray), _, rfl, ⟨_, 7, (fh (Op.mk 6 0 n 0 0 [] []) fB fB), rfl, rfl, rfl, rfl, ⟨rfl, Rb1 Z⟩, rfl⟩, rfl⟩, ?_⟩
      exact Re1<|Re1<|Sd<|⟨fB, fB, rfl, rfl, (Slr.nil fW _), (Slr.nil Ty.i64 _)⟩
theorem EN (e : Nat) (p0 : fg) (g : SV) (p1 : fM) (j : SV) (k : SV) (p2 : Int) (D : ae3) (E : Int) (F : Int) (H : na p0 p1 p2 = some (D, E, F)) (K : Kp) (G : List Ent) (a3 : Slr Ty.u8 K (sv g) p0.list) (az : Slr Ty.i64 K (sv j) p1.capacities) (aA : Slr Ty.u64 K (sv k) p1.starts) :
  Fc Tryz.prog 20 #[(Vp e), (.agg (fp p1 j k).toArray), (Vi p2)] K ((.blk e 99 (fE p0 g)) :: G) (fun v n m => ∃ (be : SV) (bc : List (List Value)), v = (sv be) ∧ (.blk e 99 (fE (fg.mk p0.list E F) g)) :: (.row (sv be) 52 1 bc.flatten) :: G = m ∧ RowR (Ty.sl gC) n bc D) := by
 refine fN Tryz.func20 rfl Tryz.ntmps20 Tryz.results20 rfl ?_
 unfold na at H
 refine fc<|fa<|?_
 refine ff rfl (fR (cs := (fp p1 j k)) rfl rfl rfl (fun I => ?_))
 refine Ea Z<|fb<|fc<|fa<|EF 2 Z<|El (Vi p1.threads) Z (Rb0 Z)<|?_
 obtain ⟨b4, bZ, H⟩ := bnd H
 refine ff rfl (jx (T := (Ty.sl gC)) (r := [(sv fB)]) rfl rfl rfl bZ rfl rfl rfl rfl rfl rfl rfl rfl rfl ⟨fB, rfl, (Slr.nil gC _)⟩ (fun i b1 bp b0 => ?_))
 obtain ⟨b3, bW, rfl⟩ : ∃ vs : List Value, vs = List.replicate p1.threads.toNat (sv fB) ∧ b1 = vs.map one := ⟨_, rfl, by rw [b0]; exact kM.symm⟩
 refine Ow.shift (Shift.nilTokV bW 51 7  (Sd ?_))
 refine Ea Z<|fb<|?_
 refine fz (fun A n m => ∃ (aJ : ae3) (aa : List Value) (aH : Int) (aI : Int), [(7, (sv i))] = A ∧ (.blk e 99 (fE (fg.mk p0.list aH aI) g)) :: (.row (sv i) 52 1 (aa.map one).flatten) :: (.tok 51 7 aa) :: G = m ∧ ou p0 aJ aH aI = some (D, E, F) ∧ RowR (Ty.sl gC) n (aa.map one) aJ) ?_ ?_
 ·refine fc<|fa<|Ea Z<|fb<|fA<|?_
  refine f7 (fun bb A n m => ∃ (d : ae3) (c : List Value) (p : Int) (B : Int) (C : Int), [(0, (Vp e)), (2, (Vi p2)), (4, (Vp I)), (7, (sv i)), (8, (Vi p))] = A ∧ (.blk e 99 (fE (fg.mk p0.list B C) g)) :: (.blk I 27 (fp p1 j k)) :: (.row (sv i) 52 1 (c.map one).flatten) :: (.tok 51 7 c) :: G = m ∧ lp4 (ow p2 p0 p1) bb d p B C = some (D, E, F) ∧ RowR (Ty.sl gC) n (c.map one) d) BIG ?_ ?_
  ·exact Pu1<|Pu2<|Pu3<|Sd<|⟨_, by exact R5, b4, b3, 0, p0.at_, p0.value, rfl, rfl, H, bp⟩
  rintro bb _ bg _ x ⟨d, c, p, B, C, rfl, rfl, H, o⟩
  obtain ⟨cB, ba, rfl, br, H⟩ := lps4 H
  unfold ow at H
  refine fc ?_
  refine fz (fun A n m => ∃ (aK : Bool) (y : Int) (z : Int), [(0, (Vp e)), (2, (Vi p2)), (4, (Vp I)), (7, (sv i)), (8, (Vi p)), (19, (.bool aK))] = A ∧ bg = n ∧ (.blk e 99 (fE (fg.mk p0.list y z) g)) :: (.blk I 27 (fp p1 j k)) :: (.row (sv i) 52 1 (c.map one).flatten) :: (.tok 51 7 c) :: G = m ∧ mE p2 d p p0 p1 ba aK y z = some (D, E, F)) ?_ ?_
  ·refine fa<|Em Z<|Em Z<|Ec Z<|Em Z<|?_
   refine Ee Z ?_ ?_
   ·intro W
    obtain ⟨W, H⟩ := It W H
    refine Vm Z ?_
    obtain ⟨bf, bX, H⟩ := bnd H
    have bC := a3.mono x
    refine ib rfl rfl rfl rfl (Ek Tryz.call22 Z (tl e (fg.mk p0.list B C) g bf bX _ _ bC) ?_)
    rintro _ _ _ - ⟨rfl, rfl, rfl⟩
    exact Et Z<|fb<|Pu3<|Pu3<|Pu3<|Pu3<|Sd<|⟨_, by exact R6, bf, ((fg.mk p0.list B C).at_), ((fg.mk p0.list B C).value), rfl, rfl, rfl, H⟩
   ·intro W
    obtain ⟨W, H⟩ := If W H
    exact Ez Z<|Ez Z<|Ef Z<|fb<|Pu3<|Pu3<|Pu3<|Pu3<|Sd<|⟨_, by exact R6, false, B, C, rfl, rfl, rfl, H⟩
  rintro _ _ _ - ⟨aK, y, z, rfl, rfl, rfl, H⟩
  unfold mE at H
  refine fm rfl ?_ ?_
  ·intro ay
   have H := ift ay H
   refine ft ?_
   refine fz (fun A n m => ∃ (av : ae3) (Y : List Value) (ar : Int) (au : Int), [(0, (Vp e)), (2, (Vi p2)), (4, (Vp I)), (7, (sv i)), (8, (Vi p))] = A ∧ (.blk e 99 (fE (fg.mk p0.list ar au) g)) :: (.blk I 27 (fp p1 j k)) :: (.row (sv i) 52 1 (Y.map one).flatten) :: (.tok 51 7 Y) :: G = m ∧ ov p2 p p0 p1 ba av ar au = some (D, E, F) ∧ RowR (Ty.sl gC) n (Y.map one) av) ?_ ?_
   ·refine fA<|fc<|fa<|Em Z<|EF 2 Z<|El (Vi p1.threads) Z (Rb1 Z)<|?_
    obtain ⟨a, aw, bY, H⟩ := ir H
    have aj := a3.mono x
    refine ff rfl (Ek Tryz.call23 Z (ja e (fg.mk p0.list y z) g p1.threads a aw bY _ _ aj) ?_)
    rintro _ _ _ - ⟨rfl, rfl, rfl⟩
    refine Ea Z<|fb<|?_
    obtain ⟨cX, L, H⟩ := bnd H
    obtain ⟨b, u, w, aG, H⟩ := k7 H
    obtain ⟨h, M, H⟩ := bnd H
    obtain ⟨cY, f, H⟩ := bnd H
    refine fq _ rfl (Ic Mb1 In0)<|Jm 0 Z<|Jm 1 Z<|Jm 2 Z<|Jm 3 Z<|Jm 6 Z<|JL 7 3 (fp p1 j k) Z (Rb0 Z)<|?_
    refine gY 4 8 (by kernel_rfl) ?_ ?_
    ·obtain ⟨cC, X, bs⟩ := RowR.at o L
     obtain ⟨aL, rfl, aC⟩ := bs
     have aF := jb X
     refine id (Jyq Z (gz (T := (Ty.sl gC)) Mb2 o X (fL L).1 rfl rfl rfl rfl rfl) ⟨(Ic Mb1 In0), ?_⟩)
     refine gY 5 8 (by kernel_rfl) ?_ ?_
     ·refine id (Jyq Z (gv (v := (sv aL)) rfl rfl rfl (gQ (T := (Ty.sl gC)) Mb2 o X rfl rfl)) ⟨(Ic Mb1 In0), ?_⟩)
      refine Ao 8 Z ?_
      have bD := az.mono x
      have bE := aA.mono x
      refine Ek Tryz.call40 Z (xe e (fg.mk p0.list aw ((fg.mk p0.list y z).value)) g p1 j k b u w aG _ _ aj bD bE) ?_
      rintro _ bh _ aP ⟨aM, aN, rfl, rfl, bF, bG⟩
      refine ⟨(Ic Mb1 In0), ?_⟩
      refine Ao 9 Z ?_
      have aR : RowR gC bh [(fh b aM aN)] [b] := RowR.cons ⟨aM, aN, rfl, bF, bG⟩ (RowR.nil)
      refine gk (T := gC) (rows := [(fh b aM aN)]) (l := [b]) rfl rfl rfl aR rfl rfl rfl rfl rfl rfl rfl rfl (fun cL => ⟨(Ic Mb2 In0), ?_⟩)
      refine Ao 10 Z ?_
      have bI := aC.mono aP
      refine ga (T := gC) (bytes := 88) (q := a.toNat) rfl rfl rfl bI Mb4 aF (SrcT.row Mb0 aR rfl) M rfl rfl rfl rfl rfl rfl rfl rfl (fun N b5 bi bH => ⟨_, (.there (.there (.there (.there .here)))), ⟨(Ic Mb2 In0), ?_⟩⟩)
      refine Aw.shift (Re0 (Sd ⟨(Ic Mb1 In0), ?_⟩))
      have ak := (o.mono aP).mono bi
      obtain ⟨cD, ac, bt⟩ := RowR.at ak f
      obtain ⟨cM, rfl, co⟩ := bt
      have cv := jb ac
      refine gB 11 (by kernel_rfl) (Jyq Z (gz (T := (Ty.sl gC)) Mb2 ak ac (fL f).1 rfl rfl rfl rfl rfl) ⟨(Ic Mb1 In0), ?_⟩)
      refine Ao 12 Z ?_
      refine gP (T := (Ty.sl gC)) (vs := [(sv N)]) (r' := [(sv N)]) (l' := (f8 d a h)) rfl rfl rfl rfl rfl (.there (.there .here)) ak ac rfl rfl rfl (RowR.set a ak ⟨N, rfl, bH⟩) (fun aS => ⟨(Ic Mb1 In0), ?_⟩)
      have hse := iJ c a.toNat (sv N)
      rw [hse] at aS ⊢
      clear hse
      have cg := j8 ac (v := (sv N))
      exact Ad<|Pu3<|Pu3<|Pu3<|Pu3<|Sd<|⟨_, by exact R5, (f8 d a h), (c.set a.toNat (sv N)), u, w, rfl, rfl, H, aS⟩
     ·refine id (Jy Z ?_)
      have bJ := az.mono x
      have bK := aA.mono x
      refine Ek Tryz.call40 Z (xe e (fg.mk p0.list aw ((fg.mk p0.list y z).value)) g p1 j k b u w aG _ _ aj bJ bK) ?_
      rintro _ aO _ ab ⟨O, P, rfl, rfl, a4, a5⟩
      refine ⟨(Ic Mb1 In0), ?_⟩
      refine gY 5 9 (by kernel_rfl) ?_ ?_
      ·have a6 := o.mono ab
       refine id (Jyq Z (gv (v := (sv aL)) rfl rfl rfl (gQ (T := (Ty.sl gC)) Mb2 a6 X rfl rfl)) ⟨(Ic Mb1 In0), ?_⟩)
       refine Ao 9 Z ?_
       have aT : RowR gC aO [(fh b O P)] [b] := RowR.cons ⟨O, P, rfl, a4, a5⟩ (RowR.nil)
       refine gk (T := gC) (rows := [(fh b O P)]) (l := [b]) rfl rfl rfl aT rfl rfl rfl rfl rfl rfl rfl rfl (fun cN => ⟨(Ic Mb2 In0), ?_⟩)
       refine Ao 10 Z ?_
       have bM := aC.mono ab
       refine ga (T := gC) (bytes := 88) (q := a.toNat) rfl rfl rfl bM Mb4 aF (SrcT.row Mb0 aT rfl) M rfl rfl rfl rfl rfl rfl rfl rfl (fun Q b6 bj bL => ⟨_, (.there (.there (.there (.there .here)))), ⟨(Ic Mb2 In0), ?_⟩⟩)
       refine Aw.shift (Re0 (Sd ⟨(Ic Mb1 In0), ?_⟩))
       have al := a6.mono bj
       obtain ⟨cE, ad, bu⟩ := RowR.at al f
       obtain ⟨cO, rfl, cp⟩ := bu
       have cw := jb ad
       refine gB 11 (by kernel_rfl) (Jyq Z (gz (T := (Ty.sl gC)) Mb2 al ad (fL f).1 rfl rfl rfl rfl rfl) ⟨(Ic Mb1 In0), ?_⟩)
       refine Ao 12 Z ?_
       refine gP (T := (Ty.sl gC)) (vs := [(sv Q)]) (r' := [(sv Q)]) (l' := (f8 d a h)) rfl rfl rfl rfl rfl (.there (.there .here)) al ad rfl rfl rfl (RowR.set a al ⟨Q, rfl, bL⟩) (fun aU => ⟨(Ic Mb1 In0), ?_⟩)
       have hse := iJ c a.toNat (sv Q)
       rw [hse] at aU ⊢
       clear hse
       have ch := j8 ad (v := (sv Q))
       exact Ad<|Pu3<|Pu3<|Pu3<|Pu3<|Sd<|⟨_, by exact R5, (f8 d a h), (c.set a.toNat (sv Q)), u, w, rfl, rfl, H, aU⟩
      ·refine id (Jy Z ?_)
       have aV : RowR gC aO [(fh b O P)] [b] := RowR.cons ⟨O, P, rfl, a4, a5⟩ (RowR.nil)
       refine gk (T := gC) (rows := [(fh b O P)]) (l := [b]) rfl rfl rfl aV rfl rfl rfl rfl rfl rfl rfl rfl (fun cP => ⟨(Ic Mb2 In0), ?_⟩)
       have a7 := o.mono ab
       refine gB 5 (by kernel_rfl) (Jyq Z (gv (v := (sv aL)) rfl rfl rfl (gQ (T := (Ty.sl gC)) Mb3 a7 X rfl rfl)) ⟨(Ic Mb2 In0), ?_⟩)
       refine Ao 10 Z ?_
       have bO := aC.mono ab
       refine ga (T := gC) (bytes := 88) (q := a.toNat) rfl rfl rfl bO Mb4 aF (SrcT.row Mb0 aV rfl) M rfl rfl rfl rfl rfl rfl rfl rfl (fun R b7 bk bN => ⟨_, (.there (.there (.there (.there .here)))), ⟨(Ic Mb2 In0), ?_⟩⟩)
       refine Aw.shift (Re0 (Sd ⟨(Ic Mb1 In0), ?_⟩))
       have am := a7.mono bk
       obtain ⟨cF, ae, bv⟩ := RowR.at am f
       obtain ⟨cQ, rfl, cq⟩ := bv
       have cx := jb ae
       refine gB 11 (by kernel_rfl) (Jyq Z (gz (T := (Ty.sl gC)) Mb2 am ae (fL f).1 rfl rfl rfl rfl rfl) ⟨(Ic Mb1 In0), ?_⟩)
       refine Ao 12 Z ?_
       refine gP (T := (Ty.sl gC)) (vs := [(sv R)]) (r' := [(sv R)]) (l' := (f8 d a h)) rfl rfl rfl rfl rfl (.there (.there .here)) am ae rfl rfl rfl (RowR.set a am ⟨R, rfl, bN⟩) (fun aW => ⟨(Ic Mb1 In0), ?_⟩)
       have hse := iJ c a.toNat (sv R)
       rw [hse] at aW ⊢
       clear hse
       have ci := j8 ae (v := (sv R))
       exact Ad<|Pu3<|Pu3<|Pu3<|Pu3<|Sd<|⟨_, by exact R5, (f8 d a h), (c.set a.toNat (sv R)), u, w, rfl, rfl, H, aW⟩
    ·refine id (Jy Z ?_)
     have bP := az.mono x
     have bQ := aA.mono x
     refine Ek Tryz.call40 Z (xe e (fg.mk p0.list aw ((fg.mk p0.list y z).value)) g p1 j k b u w aG _ _ aj bP bQ) ?_
     rintro _ ax _ aQ ⟨s, t, rfl, rfl, aD, aE⟩
     refine ⟨(Ic Mb1 In0), ?_⟩
     refine gY 4 9 (by kernel_rfl) ?_ ?_
     ·have J := o.mono aQ
      obtain ⟨cG, af, bw⟩ := RowR.at J L
      obtain ⟨bd, rfl, a8⟩ := bw
      have a9 := jb af
      refine id (Jyq Z (gz (T := (Ty.sl gC)) Mb2 J af (fL L).1 rfl rfl rfl rfl rfl) ⟨(Ic Mb1 In0), ?_⟩)
      refine gY 5 9 (by kernel_rfl) ?_ ?_
      ·refine id (Jyq Z (gv (v := (sv bd)) rfl rfl rfl (gQ (T := (Ty.sl gC)) Mb2 J af rfl rfl)) ⟨(Ic Mb1 In0), ?_⟩)
       refine Ao 9 Z ?_
       have aX : RowR gC ax [(fh b s t)] [b] := RowR.cons ⟨s, t, rfl, aD, aE⟩ (RowR.nil)
       refine gk (T := gC) (rows := [(fh b s t)]) (l := [b]) rfl rfl rfl aX rfl rfl rfl rfl rfl rfl rfl rfl (fun cR => ⟨(Ic Mb2 In0), ?_⟩)
       refine Ao 10 Z ?_
       refine ga (T := gC) (bytes := 88) (q := a.toNat) rfl rfl rfl a8 Mb4 a9 (SrcT.row Mb0 aX rfl) M rfl rfl rfl rfl rfl rfl rfl rfl (fun S b8 bl bR => ⟨_, (.there (.there (.there (.there .here)))), ⟨(Ic Mb2 In0), ?_⟩⟩)
       refine Aw.shift (Re0 (Sd ⟨(Ic Mb1 In0), ?_⟩))
       have an := J.mono bl
       obtain ⟨cH, ag, bx⟩ := RowR.at an f
       obtain ⟨cS, rfl, cr⟩ := bx
       have cy := jb ag
       refine gB 11 (by kernel_rfl) (Jyq Z (gz (T := (Ty.sl gC)) Mb2 an ag (fL f).1 rfl rfl rfl rfl rfl) ⟨(Ic Mb1 In0), ?_⟩)
       refine Ao 12 Z ?_
       refine gP (T := (Ty.sl gC)) (vs := [(sv S)]) (r' := [(sv S)]) (l' := (f8 d a h)) rfl rfl rfl rfl rfl (.there (.there .here)) an ag rfl rfl rfl (RowR.set a an ⟨S, rfl, bR⟩) (fun aY => ⟨(Ic Mb1 In0), ?_⟩)
       have hse := iJ c a.toNat (sv S)
       rw [hse] at aY ⊢
       clear hse
       have cj := j8 ag (v := (sv S))
       exact Ad<|Pu3<|Pu3<|Pu3<|Pu3<|Sd<|⟨_, by exact R5, (f8 d a h), (c.set a.toNat (sv S)), u, w, rfl, rfl, H, aY⟩
      ·refine id (Jy Z ?_)
       have aZ : RowR gC ax [(fh b s t)] [b] := RowR.cons ⟨s, t, rfl, aD, aE⟩ (RowR.nil)
       refine gk (T := gC) (rows := [(fh b s t)]) (l := [b]) rfl rfl rfl aZ rfl rfl rfl rfl rfl rfl rfl rfl (fun cT => ⟨(Ic Mb2 In0), ?_⟩)
       refine gB 5 (by kernel_rfl) (Jyq Z (gv (v := (sv bd)) rfl rfl rfl (gQ (T := (Ty.sl gC)) Mb3 J af rfl rfl)) ⟨(Ic Mb2 In0), ?_⟩)
       refine Ao 10 Z ?_
       refine ga (T := gC) (bytes := 88) (q := a.toNat) rfl rfl rfl a8 Mb4 a9 (SrcT.row Mb0 aZ rfl) M rfl rfl rfl rfl rfl rfl rfl rfl (fun U b9 bm bS => ⟨_, (.there (.there (.there (.there .here)))), ⟨(Ic Mb2 In0), ?_⟩⟩)
       refine Aw.shift (Re0 (Sd ⟨(Ic Mb1 In0), ?_⟩))
       have ao := J.mono bm
       obtain ⟨cI, ah, bz⟩ := RowR.at ao f
       obtain ⟨cU, rfl, ct⟩ := bz
       have cz := jb ah
       refine gB 11 (by kernel_rfl) (Jyq Z (gz (T := (Ty.sl gC)) Mb2 ao ah (fL f).1 rfl rfl rfl rfl rfl) ⟨(Ic Mb1 In0), ?_⟩)
       refine Ao 12 Z ?_
       refine gP (T := (Ty.sl gC)) (vs := [(sv U)]) (r' := [(sv U)]) (l' := (f8 d a h)) rfl rfl rfl rfl rfl (.there (.there .here)) ao ah rfl rfl rfl (RowR.set a ao ⟨U, rfl, bS⟩) (fun a0 => ⟨(Ic Mb1 In0), ?_⟩)
       have hse := iJ c a.toNat (sv U)
       rw [hse] at a0 ⊢
       clear hse
       have ck := j8 ah (v := (sv U))
       exact Ad<|Pu3<|Pu3<|Pu3<|Pu3<|Sd<|⟨_, by exact R5, (f8 d a h), (c.set a.toNat (sv U)), u, w, rfl, rfl, H, a0⟩
     ·refine id (Jy Z ?_)
      have a1 : RowR gC ax [(fh b s t)] [b] := RowR.cons ⟨s, t, rfl, aD, aE⟩ (RowR.nil)
      refine gk (T := gC) (rows := [(fh b s t)]) (l := [b]) rfl rfl rfl a1 rfl rfl rfl rfl rfl rfl rfl rfl (fun cV => ⟨(Ic Mb2 In0), ?_⟩)
      have ap := o.mono aQ
      obtain ⟨cJ, aB, bA⟩ := RowR.at ap L
      obtain ⟨b2, rfl, bT⟩ := bA
      have bV := jb aB
      refine gB 4 (by kernel_rfl) (Jyq Z (gz (T := (Ty.sl gC)) Mb3 ap aB (fL L).1 rfl rfl rfl rfl rfl) ⟨(Ic Mb2 In0), ?_⟩)
      refine gB 5 (by kernel_rfl) (Jyq Z (gv (v := (sv b2)) rfl rfl rfl (gQ (T := (Ty.sl gC)) Mb3 ap aB rfl rfl)) ⟨(Ic Mb2 In0), ?_⟩)
      refine Ao 10 Z ?_
      refine ga (T := gC) (bytes := 88) (q := a.toNat) rfl rfl rfl bT Mb4 bV (SrcT.row Mb0 a1 rfl) M rfl rfl rfl rfl rfl rfl rfl rfl (fun V ca bn bU => ⟨_, (.there (.there (.there (.there .here)))), ⟨(Ic Mb2 In0), ?_⟩⟩)
      refine Aw.shift (Re0 (Sd ⟨(Ic Mb1 In0), ?_⟩))
      have aq := ap.mono bn
      obtain ⟨cK, ai, bB⟩ := RowR.at aq f
      obtain ⟨cW, rfl, cu⟩ := bB
      have cA := jb ai
      refine gB 11 (by kernel_rfl) (Jyq Z (gz (T := (Ty.sl gC)) Mb2 aq ai (fL f).1 rfl rfl rfl rfl rfl) ⟨(Ic Mb1 In0), ?_⟩)
      refine Ao 12 Z ?_
      refine gP (T := (Ty.sl gC)) (vs := [(sv V)]) (r' := [(sv V)]) (l' := (f8 d a h)) rfl rfl rfl rfl rfl (.there (.there .here)) aq ai rfl rfl rfl (RowR.set a aq ⟨V, rfl, bU⟩) (fun a2 => ⟨(Ic Mb1 In0), ?_⟩)
      have hse := iJ c a.toNat (sv V)
      rw [hse] at a2 ⊢
      clear hse
      have cl := j8 ai (v := (sv V))
      exact Ad<|Pu3<|Pu3<|Pu3<|Pu3<|Sd<|⟨_, by exact R5, (f8 d a h), (c.set a.toNat (sv V)), u, w, rfl, rfl, H, a2⟩
   rintro _ cb _ cm ⟨av, Y, ar, au, rfl, rfl, H, bo⟩
   unfold ov at H
   exact fa<|Em Z<|Er (wI (p + 1)) Z<|Ea Z<|fb<|Pu3<|Pu3<|Pu3<|Pu3<|Sd<|⟨_, by exact R5, _, Nat.lt_succ_self _, av, Y, (wI (p + 1)), ar, au, rfl, rfl, (br ▸ H), bo⟩
  ·intro ay
   have H := fX (btf ay) H
   exact f9<|Pu3<|Pu3<|Pu2<|Re3<|Sd<|⟨_, by exact R1, d, c, y, z, rfl, rfl, H, o⟩
 rintro _ cc _ cn ⟨aJ, aa, aH, aI, rfl, rfl, H, bq⟩
 unfold ou at H
 refine fc<|fa<|Em Z<|Ea Z<|fb<|fx<|?_
 obtain ⟨cd, ce, cf⟩ := jP H
 subst D E F
 refine ⟨(.inl rfl), [(sv i)], ⟨(sv i), _, rfl, rfl, rfl⟩, ?_⟩
 exact Pu1<|Pu1<|Re2<|Sd<|⟨i, (aa.map one), rfl, rfl, bq⟩
theorem C3 (p0 : Int) (p1 : Int) (c : Int) (H : rM p0 p1 = some c) (K : Kp) (G : List Ent)  :
  Fc Tryz.prog 12 #[(Vi p0), (Vi p1)] K (G) (fun v e d => v = (Vi c) ∧ K = e ∧ G = d) := by
 refine fN Tryz.func12 rfl Tryz.ntmps12 Tryz.results12 rfl ?_
 unfold rM at H
 refine fc<|fa<|Ea Z<|fb<|fc<|fa<|Em Z<|Em Z<|?_
 obtain ⟨b, g, H⟩ := bnd H
 refine Eq Z (B2 g rfl rfl)<|Ea Z<|fb<|fc<|fc<|fa<|Em Z<|Ec Z<|fb<|?_
 refine fm rfl ?_ ?_
 ·intro a
  obtain ⟨a, H⟩ := It a H
  refine fa<|Em Z<|Em Z<|Er (wI (b + p1)) Z<|Ea Z<|fb<|fc<|fa<|Em Z<|Ea Z<|fb<|fx<|?_
  obtain f := gn H
  subst c
  refine ⟨(.inl rfl), [(Vi (wI (b + p1)))], ⟨(Vi (wI (b + p1))), _, rfl, rfl, rfl⟩, ?_⟩
  exact Sd ⟨rfl, rfl, rfl⟩
 ·intro a
  obtain ⟨a, H⟩ := If a H
  refine ft<|fc<|fa<|Em Z<|Ea Z<|fb<|fx<|?_
  obtain f := gn H
  subst c
  refine ⟨(.inl rfl), [(Vi b)], ⟨(Vi b), _, rfl, rfl, rfl⟩, ?_⟩
  exact Sd ⟨rfl, rfl, rfl⟩
end Go.Hx
namespace Go.Hx
open Go Go.Proofs
set_option maxRecDepth 10000
set_option maxHeartbeats 1000000
theorem pm (p0 : fM) (e : SV) (o : SV) (j : ad0) (H : uk p0 = some j) (K : Kp) (G : List Ent) (q : Slr Ty.i64 K (sv e) p0.capacities) (Q : Slr Ty.u64 K (sv o) p0.starts) :
  Fc Tryz.prog 27 #[(.agg (fp p0 e o).toArray)] K (G) (fun v b f => ∃ (z : SV) (t : List (List Value)), v = (sv z) ∧ (.row (sv z) 104 3 t.flatten) :: (.tok 36 1 (col 1 t)) :: G = f ∧ RowR fF b t j) := by
 refine fN Tryz.func27 rfl Tryz.ntmps27 Tryz.results27 rfl ?_
 unfold uk at H
 refine fc<|fa<|?_
 refine ff rfl (fR (cs := (fp p0 e o)) rfl rfl rfl (fun u => ?_))
 refine Ea Z<|fb<|fc<|fa<|Ea Z<|fb<|?_
 refine fz (fun p b f => ∃ (d : SV) (s : ad0) (i : List (List Value)), [(3, (sv d))] = p ∧ (.row (sv d) 104 3 i.flatten) :: (.tok 36 1 (col 1 i)) :: G = f ∧ y6 s = some j ∧ RowR fF b i s) ?_ ?_
 ·refine fc<|fa<|Ea Z<|fb<|fA<|?_
  refine f7 (fun n148 p b f => ∃ (n : SV) (m : ad0) (c : List (List Value)) (h : Int), [(1, (Vp u)), (3, (sv n)), (4, (Vi h))] = p ∧ K = b ∧ (.blk u 27 (fp p0 e o)) :: (.row (sv n) 104 3 c.flatten) :: (.tok 36 1 (col 1 c)) :: G = f ∧ lp2 (xK p0) n148 m h = some j ∧ RowR fF b c m) BIG ?_ ?_
  ·have B : RowR fF K [] [] := RowR.nil
   exact Shift.nilRow 104 3<|Shift.tok0 36 1 1<|Pu1<|Pu2<|Sd<|⟨_, by exact R3, fB, ([] : ad0), ([] : List (List Value)), 0, rfl, rfl, rfl, H, B⟩
  rintro n148 _ _ _ - ⟨n, m, c, h, rfl, rfl, rfl, H, w⟩
  obtain ⟨S, R, rfl, E, H⟩ := jL H
  unfold xK at H
  refine fc<|fc<|fa<|Em Z<|EF 0 Z<|El (sv e) Z (Rb0 Z)<|Eq Z (gg (T := Ty.i64) q rfl rfl)<|Ec Z<|fb<|?_
  refine fm rfl ?_ ?_
  ·intro g
   obtain ⟨g, H⟩ := It g H
   refine ft<|fc<|fA<|fa<|Em Z<|EF 0 Z<|El (sv e) Z (Rb0 Z)<|Em Z<|?_
   obtain ⟨a, y, H⟩ := bnd H
   obtain ⟨_, rfl, D⟩ := Slr.at q y
   refine Eq Z (Qi (T := Ty.i64) q y Z)<|El (Vi a) Z (Rdc.k D rfl)<|Eq Z (fH (cs := (fy (fJ.mk a [] false) fB)) rfl rfl rfl rfl rfl rfl)<|?_
   have x : RowR fF K [(fy (fJ.mk a [] false) fB)] [(fJ.mk a [] false)] := RowR.cons ⟨fB, rfl, (Slr.nil Ty.u64 _)⟩ (RowR.nil)
   refine ff rfl (gk (T := fF) (rows := [(fy (fJ.mk a [] false) fB)]) (l := [(fJ.mk a [] false)]) rfl rfl rfl x rfl rfl rfl rfl rfl rfl rfl rfl (fun U => ?_))
   obtain ⟨M, I, H⟩ := bnd H
   refine ff rfl (AU (T := fF) (bytes := 40) rfl rfl rfl Mb2 w Mb0 x I rfl rfl rfl rfl rfl rfl rfl rfl (fun L J F C => ⟨_, (.there (.there .here)), ?_⟩))
   refine Ow.shift (Shift.tokNil (.there (.there (.there .here))) (Sd ?_))
   have hse := EU (k := 1) (rows := c) (r := (fy (fJ.mk a [] false) fB)) (v := (sv fB)) rfl
   rw [show (Value.slice none 0 0) = (sv fB) from rfl, hse, ← F]
   clear hse
   refine Ow.shift (Re0 (Sd ?_))
   exact Ea Z<|fb<|fa<|Em Z<|Er (wI (h + 1)) Z<|Ea Z<|fb<|Pu2<|Pu2<|Pu2<|Sd<|⟨_, by exact R3, _, Nat.lt_succ_self _, L, M, J, (wI (h + 1)), rfl, rfl, rfl, (E ▸ H), C⟩
  ·intro g
   obtain ⟨g, H⟩ := If g H
   exact f9<|Pu2<|Pu2<|Re2<|Sd<|⟨_, by exact R1, n, m, c, rfl, rfl, H, w⟩
 rintro _ N _ P ⟨d, s, i, rfl, rfl, H, A⟩
 unfold y6 at H
 refine fc<|fa<|Em Z<|Ea Z<|fb<|fx<|?_
 obtain O := gn H
 subst j
 refine ⟨(.inl rfl), [(sv d)], ⟨(sv d), _, rfl, rfl, rfl⟩, ?_⟩
 exact Pu1<|Pu1<|Sd<|⟨d, i, rfl, rfl, A⟩
theorem lS (p0 : ad0) (c : SV) (p1 : Int) (b : Bool) (H : qh p0 p1 = some b) (K : Kp) (G : List Ent) (g : Slr fF K (sv c) p0) :
  Fc Tryz.prog 107 #[(sv c), (Vi p1)] K (G) (fun v e d => v = (.bool b) ∧ K = e ∧ G = d) := by
 refine fN Tryz.func107 rfl Tryz.ntmps107 Tryz.results107 rfl ?_
 unfold qh at H
 refine fc<|fa<|Ea Z<|fb<|fc<|fa<|Em Z<|Ec Z<|Em Z<|?_
 refine Ee Z ?_ ?_
 ·intro a
  obtain ⟨a, H⟩ := It a H
  refine Vm Z<|Vm Z<|Vq Z (gg (T := fF) g rfl rfl)<|Vc Z<|Et Z<|Ea Z<|fb<|fx<|?_
  obtain f := gn H
  subst b
  refine ⟨(.inl rfl), [(.bool (dcd (p1 < (p0.length : Int))))], ⟨(.bool (dcd (p1 < (p0.length : Int)))), _, rfl, rfl, rfl⟩, ?_⟩
  exact Sd ⟨rfl, rfl, rfl⟩
 ·intro a
  obtain ⟨a, H⟩ := If a H
  refine Ez Z<|Ez Z<|Ez Z<|Ez Z<|Ef Z<|Ea Z<|fb<|fx<|?_
  obtain f := gn H
  subst b
  refine ⟨(.inl rfl), [(.bool false)], ⟨(.bool false), _, rfl, rfl, rfl⟩, ?_⟩
  exact Sd ⟨rfl, rfl, rfl⟩
theorem Aa (p0 : ad0) (j : SV) (p1 : Case) (c : Bool) (H : pH p0 p1 = some c) (K : Kp) (G : List Ent) (i : Slr fF K (sv j) p0) :
  Fc Tryz.prog 79 #[(sv j), (.agg (fk p1).toArray)] K (G) (fun v o n => v = (.bool c) ∧ K = o ∧ G = n) := by
 refine fN Tryz.func79 rfl Tryz.ntmps79 Tryz.results79 rfl ?_
 unfold pH at H
 refine fc<|fa<|?_
 refine ff rfl (fR (cs := (fk p1)) rfl rfl rfl (fun t => ?_))
 refine Ea Z<|fb<|fc<|fc<|fa<|Em Z<|EF 1 Z<|El (Vi p1.channel) Z (Rb0 Z)<|?_
 obtain ⟨s, r, H⟩ := bnd H
 refine ff rfl (Ek Tryz.call107 Z (lS p0 j p1.channel s r _ _ i) ?_)
 rintro _ _ _ - ⟨rfl, rfl, rfl⟩
 refine Eq Z (gi rfl)<|fb<|?_
 refine fm rfl ?_ ?_
 ·intro b
  have b := ix b
  have H := fX (btf b) H
  refine fc<|fa<|Ea Z<|fb<|fx<|?_
  obtain d := gn H
  subst c
  refine ⟨(.inl rfl), [(.bool false)], ⟨(.bool false), _, rfl, rfl, rfl⟩, ?_⟩
  exact Re0<|Sd<|⟨rfl, rfl, rfl⟩
 ·intro b
  have b := iw b
  have H := ift b H
  refine ft<|fc<|fa<|Em Z<|EF 1 Z<|El (Vi p1.channel) Z (Rb0 Z)<|?_
  obtain ⟨a, m, H⟩ := bnd H
  obtain ⟨r25, q, p⟩ := Slr.at i m
  obtain ⟨e, rfl, l⟩ := q
  refine Eq Z (Qi (T := fF) i m Z)<|EL 3 (fy a e) Z (Rdc.k p rfl)<|?_
  refine ff rfl (fC (cs := (fy (fJ.mk 0 [] false) fB)) rfl rfl rfl rfl (fun u => ?_))
  refine ff rfl (Sa (fy a e) Z .here Z ?_)
  refine fb<|fc<|fc<|fa<|EF 0 Z<|El (.bool p1.send) Z (Rb1 Z)<|fb<|?_
  refine fm rfl ?_ ?_
  ·intro f
   have H := ift f H
   refine fc<|fa<|EF 2 Z<|El (.bool a.closed) Z (Rb0 Z)<|Em Z<|?_
   refine Ee Z ?_ ?_
   ·intro g
    have H := ift g H
    refine Ez Z<|Ez Z<|Ez Z<|Ez Z<|Ez Z<|Ez Z<|Et Z<|Ea Z<|fb<|fx<|?_
    obtain d := gn H
    subst c
    refine ⟨(.inl rfl), [(.bool true)], ⟨(.bool true), _, rfl, rfl, rfl⟩, ?_⟩
    exact Re0<|Re0<|Sd<|⟨rfl, rfl, rfl⟩
   ·intro g
    have H := fX (btf g) H
    refine VF 1 Z<|Vl (sv e) Z (Rb0 Z)<|Vq Z (gg (T := Ty.u64) l rfl rfl)<|VF 0 Z<|Vl (Vi a.capacity) Z (Rb0 Z)<|Vc Z<|Ef Z<|Ea Z<|fb<|fx<|?_
    obtain d := gn H
    subst c
    refine ⟨(.inl rfl), [(.bool (dcd ((a.buffer.length : Int) < a.capacity)))], ⟨(.bool (dcd ((a.buffer.length : Int) < a.capacity))), _, rfl, rfl, rfl⟩, ?_⟩
    exact Re0<|Re0<|Sd<|⟨rfl, rfl, rfl⟩
  ·intro f
   have H := fX (btf f) H
   refine ft<|fc<|fa<|EF 2 Z<|El (.bool a.closed) Z (Rb0 Z)<|Em Z<|?_
   refine Ee Z ?_ ?_
   ·intro h
    have H := ift h H
    refine Ez Z<|Ez Z<|Ez Z<|Ez Z<|Et Z<|Ea Z<|fb<|fx<|?_
    obtain d := gn H
    subst c
    refine ⟨(.inl rfl), [(.bool true)], ⟨(.bool true), _, rfl, rfl, rfl⟩, ?_⟩
    exact Re0<|Re0<|Sd<|⟨rfl, rfl, rfl⟩
   ·intro h
    have H := fX (btf h) H
    refine VF 1 Z<|Vl (sv e) Z (Rb0 Z)<|Vq Z (gg (T := Ty.u64) l rfl rfl)<|Vc Z<|Ef Z<|Ea Z<|fb<|fx<|?_
    obtain d := gn H
    subst c
    refine ⟨(.inl rfl), [(.bool (dcd ((a.buffer.length : Int) > 0)))], ⟨(.bool (dcd ((a.buffer.length : Int) > 0))), _, rfl, rfl, rfl⟩, ?_⟩
    exact Re0<|Re0<|Sd<|⟨rfl, rfl, rfl⟩
end Go.Hx
namespace Go.Hx
open Go Go.Proofs
set_option maxRecDepth 10000
set_option maxHeartbeats 1000000
theorem CW (p0 : fM) (b : SV) (c : SV) (d : f6) (H : rr p0 = some d) (K : Kp) (G : List Ent) (i : Slr Ty.i64 K (sv b) p0.capacities) (j : Slr Ty.u64 K (sv c) p0.starts) :
  Fc Tryz.prog 21 #[(.agg (fp p0 b c).toArray)] K (G) (fun v f h => ∃ (e : SV) (g : SV), v = (.agg (fj d e g).toArray) ∧ (.tok 104 3 [(sv e)]) :: G = h ∧ Slr fF f (sv e) d.chans ∧ Slr fQ f (sv g) d.waiting) := by
 refine fN Tryz.func21 rfl Tryz.ntmps21 Tryz.results21 rfl ?_
 unfold rr at H
 refine fc<|fa<|?_
 refine ff rfl (fR (cs := (fp p0 b c)) rfl rfl rfl (fun o => ?_))
 refine ff rfl (fC (cs := (fj (f6.mk [] [] 0) fB fB)) rfl rfl rfl rfl (fun p => ?_))
 refine fb<|fc<|fa<|EL 3 (fp p0 b c) Z (Rb1 Z)<|?_
 obtain ⟨x15, m, H⟩ := bnd H
 refine ff rfl (Ek Tryz.call27 Z (pm p0 b c x15 m _ _ i j) ?_)
 rintro _ n _ r ⟨a, t, rfl, rfl, k⟩
 refine Ow.shift (Shift.settle (T := fF) .here k rfl (fun K22 s l => Sd ?_))
 refine Eq Z (fH (cs := (fj (f6.mk x15 [] 0) a fB)) rfl rfl rfl rfl rfl rfl) ?_
 refine ff rfl (Sa (fj (f6.mk x15 [] 0) a fB) Z (.there (.there .here)) Z ?_)
 refine fb<|fx<|?_
 obtain q := gn H
 subst d
 refine ⟨(.inl rfl), [(.agg (fj (f6.mk x15 [] 0) a fB).toArray)], ⟨(.agg (fj (f6.mk x15 [] 0) a fB).toArray), _, rfl, ⟨_, 3, (fj (f6.mk x15 [] 0) a fB), rfl, rfl, rfl, rfl, ⟨rfl, Rb2 Z⟩, rfl⟩, rfl⟩, ?_⟩
 exact Re1<|Re1<|Re1<|Sd<|⟨a, fB, rfl, rfl, l, (Slr.nil fQ _)⟩
theorem nz (p0 : f6) (g : SV) (a : SV) (p1 : Int) (p2 : fJ) (c : SV) (e : f6) (H : pE p0 p1 p2 = some e) (K : Kp) (G : List Ent) (q : Slr fF K (sv g) p0.chans) (r : Slr fQ K (sv a) p0.waiting) (s : Slr Ty.u64 K (sv c) p2.buffer) :
  Fc Tryz.prog 73 #[(.agg (fj p0 g a).toArray), (Vi p1), (.agg (fy p2 c).toArray)] K (G) (fun v h n => ∃ (l : SV) (k : List (List Value)) (m : SV), v = (.agg (fj e l m).toArray) ∧ K = h ∧ (.row (sv l) 104 3 k.flatten) :: G = n ∧ RowR fF h k e.chans ∧ Slr fQ h (sv m) e.waiting) := by
 refine fN Tryz.func73 rfl Tryz.ntmps73 Tryz.results73 rfl ?_
 unfold pE at H
 refine fc<|fa<|?_
 refine ff rfl (fR (cs := (fj p0 g a)) rfl rfl rfl (fun x => ?_))
 refine ff rfl (fR (cs := (fy p2 c)) rfl rfl rfl (fun y => ?_))
 refine ff rfl (fC (cs := (fj (f6.mk [] [] 0) fB fB)) rfl rfl rfl rfl (fun z => ?_))
 refine fb<|fc<|fa<|EF 0 Z<|El (sv g) Z (Rb2 Z)<|?_
 have o : RowR fF K [] [] := RowR.nil
 refine Ow.shift (Shift.nilRow 104 3 (Sd ?_))
 obtain ⟨d, u, H⟩ := bnd H
 refine ff rfl (gZ (T := fF) (bytes := 40) rfl rfl rfl Mb0 o (SrcT.sl q) u rfl rfl rfl rfl rfl rfl rfl rfl (fun b w f => ⟨_, .here, ?_⟩))
 refine EF 0 Z ?_
 refine ff rfl (So [(sv b)] (fj (f6.mk d p0.waiting p0.tick) b a) Z (.there (.there (.there .here))) Z ?_)
 refine fb<|fc<|fa<|EF 0 Z<|El (sv b) Z (Rb3 Z)<|Em Z<|EL 3 (fy p2 c) Z (Rb2 Z)<|?_
 obtain ⟨F, j, H⟩ := bnd H
 obtain ⟨D, i, t⟩ := RowR.at f j
 obtain ⟨E, rfl, C⟩ := t
 refine Eq Z (gz (T := fF) Mb0 f i (fL j).1 rfl rfl rfl rfl rfl) ?_
 refine ff rfl (gP (T := fF) (vs := (fy p2 c)) (r' := (fy p2 c)) (l' := (f8 d p1 p2)) rfl rfl rfl rfl rfl .here f i rfl rfl rfl (RowR.set p1 f ⟨c, rfl, s⟩) (fun p => ?_))
 have B := iO i (v := (fy p2 c))
 refine fb<|fc<|fa<|EL 3 (fj (f6.mk (f8 d p1 p2) p0.waiting p0.tick) b a) Z (Rb3 Z)<|?_
 refine ff rfl (Sa (fj (f6.mk (f8 d p1 p2) p0.waiting p0.tick) b a) Z (.there .here) Z ?_)
 refine fb<|fx<|?_
 obtain A := gn H
 subst e
 refine ⟨(.inl rfl), [(.agg (fj (f6.mk (f8 d p1 p2) p0.waiting p0.tick) b a).toArray)], ⟨(.agg (fj (f6.mk (f8 d p1 p2) p0.waiting p0.tick) b a).toArray), _, rfl, ⟨_, 3, (fj (f6.mk (f8 d p1 p2) p0.waiting p0.tick) b a), rfl, rfl, rfl, rfl, ⟨rfl, Rb1 Z⟩, rfl⟩, rfl⟩, ?_⟩
 exact Re1<|Re1<|Re1<|Sd<|⟨b, (w.set p1.toNat (fy p2 c)), a, rfl, rfl, rfl, p, r⟩
end Go.Hx
namespace Go.Hx
open Go Go.Proofs
set_option maxRecDepth 10000
set_option maxHeartbeats 1000000
theorem Ae (p0 : Op) (f : SV) (g : SV) (d : Case) (e : Bool) (H : sJ p0 = some (d, e)) (K : Kp) (G : List Ent) (u : Slr fW K (sv f) p0.cases) (w : Slr Ty.i64 K (sv g) p0.draws) :
  Fc Tryz.prog 81 #[(.agg (fh p0 f g).toArray)] K (G) (fun v i h => v = (.tuple #[(.agg (fk d).toArray), (.bool e)]) ∧ K = i ∧ G = h) := by
 refine fN Tryz.func81 rfl Tryz.ntmps81 Tryz.results81 rfl ?_
 unfold sJ at H
 refine fc<|fa<|?_
 refine ff rfl (fR (cs := (fh p0 f g)) rfl rfl rfl (fun p => ?_))
 refine ff rfl (fC (cs := (fk (Case.mk false 0 0))) rfl rfl rfl rfl (fun q => ?_))
 refine Ea Z<|fb<|fc<|?_
 refine fz (fun r i h => ∃ (o : Bool) (k : Int) (l : Int) (a : Int) (m : Int) (b : Int) (i32 : Int) (n : Int), [(1, (Vp p)), (2, (Vp q)), (11, (.bool o))] = r ∧ K = i ∧ (.blk q 108 (fk (Case.mk false k l))) :: (.blk p 51 (fh (Op.mk a m b i32 n p0.cases p0.draws) f g)) :: G = h ∧ ox p0 o k l a m b i32 n = some (d, e)) ?_ ?_
 ·refine fa<|EF 0 Z<|El (Vi p0.kind) Z (Rb1 Z)<|Ec Z<|Em Z<|?_
  refine Ee Z ?_ ?_
  ·intro c
   have c := lG (ix (c))
   have H := fX c H
   exact VF 0 Z<|Vl (Vi p0.kind) Z (Rb1 Z)<|Vc Z<|Et Z<|fb<|Pu1<|Pu1<|Sd<|⟨_, by exact R3, (!(dcd (p0.kind = 2))), 0, 0, p0.kind, p0.mode, p0.channel, p0.value, p0.deadline, rfl, rfl, rfl, H⟩
  ·intro c
   have c := lH (iw (c))
   have H := ift c H
   exact Ez Z<|Ez Z<|Ez Z<|Ef Z<|fb<|Pu1<|Pu1<|Sd<|⟨_, by exact R3, false, 0, 0, p0.kind, p0.mode, p0.channel, p0.value, p0.deadline, rfl, rfl, rfl, H⟩
 rintro _ _ _ - ⟨o, k, l, a, m, b, i32, n, rfl, rfl, rfl, H⟩
 unfold ox at H
 refine fm rfl ?_ ?_
 ·intro j
  have H := ift j H
  refine fc<|fa<|Eq Z (fH (cs := (fk (Case.mk false 0 0))) rfl rfl rfl rfl rfl rfl)<|?_
  refine ff rfl (Sa (fk (Case.mk false 0 0)) Z .here Z ?_)
  refine Ea Z<|fb<|fx<|?_
  obtain ⟨s, t⟩ := hY H
  subst d e
  refine ⟨(.inl rfl), [(.agg (fk (Case.mk false 0 0)).toArray), (.bool false)], ⟨(.agg (fk (Case.mk false 0 0)).toArray), _, rfl, ⟨_, 3, (fk (Case.mk false 0 0)), rfl, rfl, rfl, rfl, ⟨rfl, Rb0 Z⟩, rfl⟩, ⟨(.bool false), _, rfl, rfl, rfl⟩⟩, ?_⟩
  exact Re0<|Re0<|Sd<|⟨rfl, rfl, rfl⟩
 ·intro j
  have H := fX (btf j) H
  refine ft<|fc<|fa<|EF 0 Z<|El (Vi a) Z (Rb1 Z)<|Ec Z<|EF 2 Z<|El (Vi b) Z (Rb1 Z)<|EF 3 Z<|El (.int .u64 i32) Z (Rb1 Z)<|Eq Z (fH (cs := (fk (Case.mk (dcd (a = 1)) b i32))) rfl rfl rfl rfl rfl rfl)<|?_
  refine ff rfl (Sa (fk (Case.mk (dcd (a = 1)) b i32)) Z .here Z ?_)
  refine Ea Z<|fb<|fx<|?_
  obtain ⟨s, t⟩ := hY H
  subst d e
  refine ⟨(.inl rfl), [(.agg (fk (Case.mk (dcd (a = 1)) b i32)).toArray), (.bool true)], ⟨(.agg (fk (Case.mk (dcd (a = 1)) b i32)).toArray), _, rfl, ⟨_, 3, (fk (Case.mk (dcd (a = 1)) b i32)), rfl, rfl, rfl, rfl, ⟨rfl, Rb0 Z⟩, rfl⟩, ⟨(.bool true), _, rfl, rfl, rfl⟩⟩, ?_⟩
  exact Re0<|Re0<|Sd<|⟨rfl, rfl, rfl⟩
theorem lu (p0 : Op) (a : SV) (d : SV) (e : af4) (H : np p0 = some e) (K : Kp) (G : List Ent) (j : Slr fW K (sv a) p0.cases) (o : Slr Ty.i64 K (sv d) p0.draws) :
  Fc Tryz.prog 44 #[(.agg (fh p0 a d).toArray)] K (G) (fun v n m => ∃ (k : SV), v = (sv k) ∧ G = m ∧ Slr fW n (sv k) e) := by
 refine fN Tryz.func44 rfl Tryz.ntmps44 Tryz.results44 rfl ?_
 unfold np at H
 refine fc<|fa<|?_
 refine ff rfl (fR (cs := (fh p0 a d)) rfl rfl rfl (fun t => ?_))
 refine Ea Z<|fb<|fc<|fc<|fa<|EF 0 Z<|El (Vi p0.kind) Z (Rb0 Z)<|Ec Z<|fb<|?_
 refine fm rfl ?_ ?_
 ·intro c
  obtain ⟨c, H⟩ := It c H
  refine fc<|fa<|EF 5 Z<|El (sv a) Z (Rb0 Z)<|Ea Z<|fb<|fx<|?_
  obtain h := gn H
  subst e
  refine ⟨(.inl rfl), [(sv a)], ⟨(sv a), _, rfl, rfl, rfl⟩, ?_⟩
  exact Re0<|Sd<|⟨a, rfl, rfl, j⟩
 ·intro c
  obtain ⟨c, H⟩ := If c H
  refine ft<|fc<|fc<|fa<|EL 7 (fh p0 a d) Z (Rb0 Z)<|?_
  obtain ⟨b, r, q, H⟩ := ir H
  refine ff rfl (Ek Tryz.call81 Z (Ae p0 a d b r q _ _ j o) ?_)
  rintro _ _ _ - ⟨rfl, rfl, rfl⟩
  refine Em Z<|Ex Z<|Ex Z<|?_
  refine ff rfl (fC (cs := (fk (Case.mk false 0 0))) rfl rfl rfl rfl (fun u => ?_))
  refine ff rfl (Sa (fk b) Z .here Z ?_)
  refine Ea Z<|fb<|fc<|fa<|Em Z<|fb<|?_
  refine fm rfl ?_ ?_
  ·intro f
   have H := ift f H
   refine fc<|fa<|EL 3 (fk b) Z (Rb0 Z)<|?_
   have i : RowR fW K [(fk b)] [b] := RowR.cons rfl (RowR.nil)
   refine ff rfl (gk (T := fW) (rows := [(fk b)]) (l := [b]) rfl rfl rfl i rfl rfl rfl rfl rfl rfl rfl rfl (fun g => ?_))
   refine Ea Z<|fb<|fx<|?_
   obtain h := gn H
   subst e
   refine ⟨(.inl rfl), [(sv g)], ⟨(sv g), _, rfl, rfl, rfl⟩, ?_⟩
   refine Shift.settle (T := fW) .here i rfl ?_
   intro s w p
   exact Re0<|Re0<|Re0<|Sd<|⟨g, rfl, rfl, p⟩
  ·intro f
   have H := fX (btf f) H
   refine ft<|fc<|fa<|Ea Z<|fb<|fx<|?_
   obtain h := gn H
   subst e
   refine ⟨(.inl rfl), [(sv fB)], ⟨(sv fB), _, rfl, rfl, rfl⟩, ?_⟩
   exact Re0<|Re0<|Sd<|⟨fB, rfl, rfl, (Slr.nil fW _)⟩
end Go.Hx
namespace Go.Hx
open Go Go.Proofs
set_option maxRecDepth 10000
set_option maxHeartbeats 1000000
theorem qs (p0 : Op) (i : SV) (j : SV) (p1 : Int) (p2 : Bool) (c : Int) (H : pF p0 p1 p2 = some c) (K : Kp) (G : List Ent) (y : Slr fW K (sv i) p0.cases) (z : Slr Ty.i64 K (sv j) p0.draws) :
  Fc Tryz.prog 74 #[(.agg (fh p0 i j).toArray), (Vi p1), (.bool p2)] K (G) (fun v d b => v = (Vi c) ∧ G = b) := by
 refine fN Tryz.func74 rfl Tryz.ntmps74 Tryz.results74 rfl ?_
 unfold pF at H
 refine fc<|fa<|?_
 refine ff rfl (fR (cs := (fh p0 i j)) rfl rfl rfl (fun E => ?_))
 refine Ea Z<|fb<|fc<|fa<|EL 7 (fh p0 i j) Z (Rb0 Z)<|?_
 obtain ⟨n, A, H⟩ := bnd H
 refine ff rfl (Ek Tryz.call44 Z (lu p0 i j n A _ _ y z) ?_)
 rintro _ o _ I ⟨r, rfl, rfl, h⟩
 refine Ea Z<|fb<|?_
 refine fz (fun e d b => [] = e ∧ G = b ∧ zf = some c) ?_ ?_
 ·refine fc<|fa<|Ea Z<|fb<|fA<|?_
  refine f7 (fun n131 e d b => ∃ (a : Int), [(1, (Vi p1)), (2, (.bool p2)), (7, (sv r)), (8, (Vi a))] = e ∧ o = d ∧ G = b ∧ lp1 (rx p1 p2 n) n131 a = some c) BIG ?_ ?_
  ·exact Re0<|Sd<|⟨_, by exact R4, 0, rfl, rfl, rfl, H⟩
  rintro n131 _ _ _ - ⟨a, rfl, rfl, rfl, H⟩
  obtain ⟨J, B, rfl, x, H⟩ := lx H
  unfold rx at H
  refine fc<|fc<|fa<|Em Z<|Em Z<|Eq Z (gg (T := fW) h rfl rfl)<|Ec Z<|fb<|?_
  refine fm rfl ?_ ?_
  ·intro f
   obtain ⟨f, H⟩ := It f H
   refine ft<|fc<|fA<|?_
   refine fz (fun e d b => ∃ (m : Bool), [(1, (Vi p1)), (2, (.bool p2)), (7, (sv r)), (8, (Vi a)), (32, (.bool m))] = e ∧ o = d ∧ G = b ∧ ru p1 p2 n a B m = some c) ?_ ?_
   ·refine fa<|Em Z<|Em Z<|?_
    obtain ⟨C, p, H⟩ := bnd H
    obtain ⟨_, rfl, u⟩ := Slr.at h p
    refine Eq Z (Qi (T := fW) h p Z)<|EF 1 Z<|El (Vi C.channel) Z (Rdc.k u rfl)<|Em Z<|Ec Z<|Em Z<|?_
    refine Ee Z ?_ ?_
    ·intro g
     obtain ⟨g, H⟩ := It g H
     refine Vm Z<|Vm Z<|?_
     obtain ⟨s, q, H⟩ := bnd H
     obtain ⟨_, rfl, w⟩ := Slr.at h q
     exact Vq Z (Qi (T := fW) h q Z)<|VF 0 Z<|Vl (.bool s.send) Z (Rdc.k w rfl)<|Vm Z<|Vq Z (zq rfl rfl rfl)<|Et Z<|fb<|Sd<|⟨_, by exact R5, (s.send == p2), rfl, rfl, rfl, H⟩
    ·intro g
     obtain ⟨g, H⟩ := If g H
     exact Ez Z<|Ez Z<|Ez Z<|Ez Z<|Ez Z<|Ez Z<|Ez Z<|Ef Z<|fb<|Sd<|⟨_, by exact R5, false, rfl, rfl, rfl, H⟩
   rintro _ _ _ - ⟨m, rfl, rfl, rfl, H⟩
   unfold ru at H
   refine fm rfl ?_ ?_
   ·intro l
    have H := ift l H
    refine fc<|fa<|Em Z<|Ea Z<|fb<|fx<|?_
    obtain t := gn H
    subst c
    refine ⟨(.inl rfl), [(Vi a)], ⟨(Vi a), _, rfl, rfl, rfl⟩, ?_⟩
    exact Sd ⟨rfl, rfl⟩
   ·intro l
    have H := fX (btf l) H
    exact ft<|fa<|Em Z<|Er (wI (a + 1)) Z<|Ea Z<|fb<|Sd<|⟨_, by exact R4, _, Nat.lt_succ_self _, (wI (a + 1)), rfl, rfl, rfl, (x ▸ H)⟩
  ·intro f
   obtain ⟨f, H⟩ := If f H
   exact f9<|Sd<|⟨[], trivial, rfl, rfl, H⟩
 rintro _ D _ F ⟨rfl, rfl, H⟩
 unfold zf at H
 refine fc<|fa<|Ea Z<|fb<|fx<|?_
 obtain t := gn H
 subst c
 refine ⟨(.inl rfl), [(Vi (-1))], ⟨(Vi (-1)), _, rfl, rfl, rfl⟩, ?_⟩
 exact Sd ⟨rfl, rfl⟩
theorem nA (p0 : Op) (c : SV) (d : SV) (p1 : Int) (b : Int) (H : pG p0 p1 = some b) (K : Kp) (G : List Ent) (h : Slr fW K (sv c) p0.cases) (i : Slr Ty.i64 K (sv d) p0.draws) :
  Fc Tryz.prog 75 #[(.agg (fh p0 c d).toArray), (Vi p1)] K (G) (fun v f e => v = (Vi b) ∧ K = f ∧ G = e) := by
 refine fN Tryz.func75 rfl Tryz.ntmps75 Tryz.results75 rfl ?_
 unfold pG at H
 refine fc<|fa<|?_
 refine ff rfl (fR (cs := (fh p0 c d)) rfl rfl rfl (fun b3 => ?_))
 refine Ea Z<|fb<|fc<|fc<|fa<|EF 0 Z<|El (Vi p0.kind) Z (Rb0 Z)<|Ec Z<|fb<|?_
 refine fm rfl ?_ ?_
 ·intro a
  obtain ⟨a, H⟩ := It a H
  refine fc<|fa<|Em Z<|Ea Z<|fb<|fx<|?_
  obtain g := gn H
  subst b
  refine ⟨(.inl rfl), [(Vi p1)], ⟨(Vi p1), _, rfl, rfl, rfl⟩, ?_⟩
  exact Re0<|Sd<|⟨rfl, rfl, rfl⟩
 ·intro a
  obtain ⟨a, H⟩ := If a H
  refine ft<|fc<|fa<|Ea Z<|fb<|fx<|?_
  obtain g := gn H
  subst b
  refine ⟨(.inl rfl), [(Vi (-1))], ⟨(Vi (-1)), _, rfl, rfl, rfl⟩, ?_⟩
  exact Re0<|Sd<|⟨rfl, rfl, rfl⟩
theorem xf (p0 : f6) (a : SV) (e : SV) (p1 : Int) (h : f6) (H : nb p0 p1 = some h) (K : Kp) (G : List Ent) (C : Slr fF K (sv a) p0.chans) (b : Slr fQ K (sv e) p0.waiting) :
  Fc Tryz.prog 76 #[(.agg (fj p0 a e).toArray), (Vi p1)] K (G) (fun v i k => ∃ (w : SV) (r : SV), v = (.agg (fj h w r).toArray) ∧ (.tok 96 8 [(sv r)]) :: G = k ∧ Slr fF i (sv w) h.chans ∧ Slr fQ i (sv r) h.waiting) := by
 refine fN Tryz.func76 rfl Tryz.ntmps76 Tryz.results76 rfl ?_
 unfold nb at H
 refine fc<|fa<|?_
 refine ff rfl (fR (cs := (fj p0 a e)) rfl rfl rfl (fun s => ?_))
 refine ff rfl (fC (cs := (fj (f6.mk [] [] 0) fB fB)) rfl rfl rfl rfl (fun t => ?_))
 refine fb ?_
 refine fz (fun x i k => ∃ (c : SV) (d : af1), [(2, (Vp s)), (4, (Vp t))] = x ∧ (.blk t 60 (fj (f6.mk [] [] 0) fB fB)) :: (.blk s 60 (fj (f6.mk p0.chans d p0.tick) a c)) :: (.tok 96 8 [(sv c)]) :: G = k ∧ ry p0 d = some h ∧ Slr fQ i (sv c) d) ?_ ?_
 ·obtain ⟨al, j, H⟩ := bnd H
  obtain ⟨am, l, H⟩ := bnd H
  obtain ⟨an, f, H⟩ := bnd H
  obtain ⟨g, m, H⟩ := bnd H
  refine fq _ rfl (Ic Mb0 In0)<|JF 0 1 Z<|Jm 2 Z<|JF 5 1 Z<|Jm 7 Z<|Jr 8 (wI (p1 + 1)) Z<|?_
  refine gY 1 6 (by kernel_rfl) ?_ ?_
  ·refine id (Jyq Z (gv (v := (sv e)) rfl rfl rfl (Rb1 Z)) ⟨(Ic Mb0 In0), ?_⟩)
   have u := Slr.cut b j
   refine Jq 3 Z (wZ (T := fQ) b j rfl rfl rfl rfl) ?_
   refine gY 4 6 (by kernel_rfl) ?_ ?_
   ·refine id (Jy Z ?_)
    refine OpW.shift (Shift.nilTok1 96 8 (Sd ?_))
    refine ga (T := fQ) (bytes := 96) (q := 0) rfl rfl rfl (Slr.nil fQ _) Mb0 rfl (SrcT.sl u) l rfl rfl rfl rfl rfl rfl rfl rfl (fun ai W y E => ⟨_, .here, ⟨(Ic Mb1 In0), ?_⟩⟩)
    refine gB 6 (by kernel_rfl) (Jyq Z (gv (v := (sv e)) rfl rfl rfl (Rb2 Z)) ⟨(Ic Mb1 In0), ?_⟩)
    have F := Slr.cutL b f
    refine Jq 9 Z (lP (T := fQ) b f rfl rfl rfl rfl rfl) ?_
    refine Ao 10 Z ?_
    have I := F.mono y
    refine ga (T := fQ) (bytes := 96) (q := 0) rfl rfl rfl E Mb0 rfl (SrcT.sl I) m rfl rfl rfl rfl rfl rfl rfl rfl (fun n X af J => ⟨_, .here, ⟨(Ic Mb1 In0), ?_⟩⟩)
    refine JF 11 1 Z ?_
    refine Ao 12 Z ?_
    refine So [(sv n)] (fj (f6.mk p0.chans g p0.tick) a n) Z (.there (.there .here)) Z ⟨(Ic Mb1 In0), ?_⟩
    exact Ad<|Pu2<|Pu2<|Sd<|⟨_, by exact R2, n, g, rfl, rfl, H, J⟩
   ·refine id (Jyq Z (gv (v := (sv e)) rfl rfl rfl (Rb1 Z)) ⟨(Ic Mb0 In0), ?_⟩)
    have L := Slr.cutL b f
    refine Jq 9 Z (lP (T := fQ) b f rfl rfl rfl rfl rfl) ?_
    refine Ao 4 Z ?_
    refine OpW.shift (Shift.nilTok1 96 8 (Sd ?_))
    refine ga (T := fQ) (bytes := 96) (q := 0) rfl rfl rfl (Slr.nil fQ _) Mb0 rfl (SrcT.sl u) l rfl rfl rfl rfl rfl rfl rfl rfl (fun aj Y z M => ⟨_, .here, ⟨(Ic Mb1 In0), ?_⟩⟩)
    refine Ao 10 Z ?_
    have N := L.mono z
    refine ga (T := fQ) (bytes := 96) (q := 0) rfl rfl rfl M Mb0 rfl (SrcT.sl N) m rfl rfl rfl rfl rfl rfl rfl rfl (fun o aa ag O => ⟨_, .here, ⟨(Ic Mb1 In0), ?_⟩⟩)
    refine JF 11 1 Z ?_
    refine Ao 12 Z ?_
    refine So [(sv o)] (fj (f6.mk p0.chans g p0.tick) a o) Z (.there (.there .here)) Z ⟨(Ic Mb1 In0), ?_⟩
    exact Ad<|Pu2<|Pu2<|Sd<|⟨_, by exact R2, o, g, rfl, rfl, H, O⟩
  ·refine id (Jyq Z (gv (v := (sv e)) rfl rfl rfl (Rb1 Z)) ⟨(Ic Mb0 In0), ?_⟩)
   have P := Slr.cutL b f
   refine Jq 9 Z (lP (T := fQ) b f rfl rfl rfl rfl rfl) ?_
   refine gB 1 (by kernel_rfl) (Jyq Z (gv (v := (sv e)) rfl rfl rfl (Rb1 Z)) ⟨(Ic Mb0 In0), ?_⟩)
   have Q := Slr.cut b j
   refine Jq 3 Z (wZ (T := fQ) b j rfl rfl rfl rfl) ?_
   refine Ao 4 Z ?_
   refine OpW.shift (Shift.nilTok1 96 8 (Sd ?_))
   refine ga (T := fQ) (bytes := 96) (q := 0) rfl rfl rfl (Slr.nil fQ _) Mb0 rfl (SrcT.sl Q) l rfl rfl rfl rfl rfl rfl rfl rfl (fun ak ab A R => ⟨_, .here, ⟨(Ic Mb1 In0), ?_⟩⟩)
   refine Ao 10 Z ?_
   have S := P.mono A
   refine ga (T := fQ) (bytes := 96) (q := 0) rfl rfl rfl R Mb0 rfl (SrcT.sl S) m rfl rfl rfl rfl rfl rfl rfl rfl (fun p ac ah U => ⟨_, .here, ⟨(Ic Mb1 In0), ?_⟩⟩)
   refine JF 11 1 Z ?_
   refine Ao 12 Z ?_
   refine So [(sv p)] (fj (f6.mk p0.chans g p0.tick) a p) Z (.there (.there .here)) Z ⟨(Ic Mb1 In0), ?_⟩
   exact Ad<|Pu2<|Pu2<|Sd<|⟨_, by exact R2, p, g, rfl, rfl, H, U⟩
 rintro _ ad _ B ⟨c, d, rfl, rfl, H, D⟩
 unfold ry at H
 refine fc<|fa<|EL 3 (fj (f6.mk p0.chans d p0.tick) a c) Z (Rb1 Z)<|?_
 refine ff rfl (Sa (fj (f6.mk p0.chans d p0.tick) a c) Z .here Z ?_)
 refine fb<|fx<|?_
 obtain ae := gn H
 subst h
 refine ⟨(.inl rfl), [(.agg (fj (f6.mk p0.chans d p0.tick) a c).toArray)], ⟨(.agg (fj (f6.mk p0.chans d p0.tick) a c).toArray), _, rfl, ⟨_, 3, (fj (f6.mk p0.chans d p0.tick) a c), rfl, rfl, rfl, rfl, ⟨rfl, Rb0 Z⟩, rfl⟩, rfl⟩, ?_⟩
 refine Pu2<|Re1<|Re1<|?_
 have V := C.mono B
 exact Sd ⟨a, c, rfl, rfl, V, D⟩
theorem qu (p0 : ad8) (h : SV) (p1 : Int) (p2 : Result) (e : ad8) (H : sK p0 p1 p2 = some e) (K : Kp) (G : List Ent) (i : Slr fP K (sv h) p0) :
  Fc Tryz.prog 77 #[(sv h), (Vi p1), (.agg (fe p2).toArray)] K (G) (fun v c b => ∃ (r : SV), v = (sv r) ∧ (.tok 67 6 [(sv r)]) :: G = b ∧ Slr fP c (sv r) e) := by
 refine fN Tryz.func77 rfl Tryz.ntmps77 Tryz.results77 rfl ?_
 unfold sK at H
 refine fc<|fa<|?_
 refine ff rfl (fR (cs := (fe p2)) rfl rfl rfl (fun d => ?_))
 refine Ea Z<|fb<|fc<|fa<|Em Z<|Eq Z (gg (T := fP) i rfl rfl)<|Ea Z<|fb<|?_
 refine fz (fun f c b => ∃ (n : Int), [(0, (sv h)), (1, (Vi p1)), (5, (Vp d)), (7, (Vi n))] = f ∧ (.blk d 38 (fe p2)) :: G = b ∧ rz p0 p1 p2 n = some e) ?_ ?_
 ·refine fA ?_
  refine f7 (fun n147 f c b => ∃ (a : Int), [(0, (sv h)), (1, (Vi p1)), (5, (Vp d)), (7, (Vi a))] = f ∧ K = c ∧ (.blk d 38 (fe p2)) :: G = b ∧ lp1 (vL p0 p1 p2) n147 a = some e) BIG ?_ ?_
  ·exact Sd ⟨_, by exact R4, (p0.length : Int), rfl, rfl, rfl, H⟩
  rintro n147 _ _ _ - ⟨a, rfl, rfl, rfl, H⟩
  obtain ⟨Y, R, rfl, E, H⟩ := lx H
  unfold vL at H
  refine fc ?_
  refine fz (fun f c b => ∃ (o : Bool), [(0, (sv h)), (1, (Vi p1)), (5, (Vp d)), (7, (Vi a)), (22, (.bool o))] = f ∧ K = c ∧ (.blk d 38 (fe p2)) :: G = b ∧ rA p0 p1 a p2 R o = some e) ?_ ?_
  ·refine fa<|Em Z<|Ec Z<|Em Z<|?_
   refine Ee Z ?_ ?_
   ·intro g
    obtain ⟨g, H⟩ := It g H
    refine Vm Z<|Vm Z<|Vr (wI (a - 1)) Z<|?_
    obtain ⟨y, u, H⟩ := bnd H
    obtain ⟨_, rfl, D⟩ := Slr.at i u
    exact Vq Z (Qi (T := fP) i u Z)<|VF 0 Z<|Vl (Vi y.thread) Z (Rdc.k D rfl)<|Vm Z<|Vc Z<|Et Z<|fb<|Sd<|⟨_, by exact R5, (dcd (y.thread > p1)), rfl, rfl, rfl, H⟩
   ·intro g
    obtain ⟨g, H⟩ := If g H
    exact Ez Z<|Ez Z<|Ez Z<|Ez Z<|Ez Z<|Ez Z<|Ez Z<|Ez Z<|Ef Z<|fb<|Sd<|⟨_, by exact R5, false, rfl, rfl, rfl, H⟩
  rintro _ _ _ - ⟨o, rfl, rfl, rfl, H⟩
  unfold rA at H
  refine fm rfl ?_ ?_
  ·intro j
   have H := ift j H
   exact ft<|fA<|fa<|Em Z<|Er (wI (a - 1)) Z<|Ea Z<|fb<|Sd<|⟨_, by exact R4, _, Nat.lt_succ_self _, (wI (a - 1)), rfl, rfl, rfl, (E ▸ H)⟩
  ·intro j
   have H := fX (btf j) H
   exact f9<|Sd<|⟨_, by exact R4, a, rfl, rfl, H⟩
 rintro _ S _ A ⟨n, rfl, rfl, H⟩
 unfold rz at H
 refine fc<|fa<|Em Z<|Em Z<|?_
 obtain ⟨ad, w, H⟩ := bnd H
 have m := i.mono A
 have F := Slr.cut m w
 refine Eq Z (wZ (T := fP) m w rfl rfl rfl rfl) ?_
 refine Ow.shift (Shift.nilTok1 67 6 (Sd ?_))
 obtain ⟨ae, O, H⟩ := bnd H
 refine ff rfl (ga (T := fP) (bytes := 48) (q := 0) rfl rfl rfl (Slr.nil fP _) Mb0 rfl (SrcT.sl F) O rfl rfl rfl rfl rfl rfl rfl rfl (fun aa z B I => ⟨_, .here, ?_⟩))
 refine Ea Z<|fb<|fc<|?_
 obtain ⟨af, P, H⟩ := bnd H
 obtain ⟨ag, x, H⟩ := bnd H
 obtain ⟨ah, Q, H⟩ := bnd H
 refine fq _ rfl (Ic Mb1 In0)<|Jm 0 Z<|Jm 1 Z<|JL 2 5 (fe p2) Z (Rb0 Z)<|Jq 3 Z (fH (cs := (fK (Done.mk p1 p2))) rfl rfl rfl rfl rfl rfl)<|Jm 6 Z<|Jm 7 Z<|?_
 have t := m.mono B
 have J := Slr.cutL t x
 refine Jq 8 Z (lP (T := fP) t x rfl rfl rfl rfl rfl) ?_
 refine Ao 4 Z ?_
 have s : RowR fP z [(fK (Done.mk p1 p2))] [(Done.mk p1 p2)] := RowR.cons rfl (RowR.nil)
 refine gk (T := fP) (rows := [(fK (Done.mk p1 p2))]) (l := [(Done.mk p1 p2)]) rfl rfl rfl s rfl rfl rfl rfl rfl rfl rfl rfl (fun ab => ⟨(Ic Mb2 In0), ?_⟩)
 refine Ao 5 Z ?_
 refine ga (T := fP) (bytes := 48) (q := 0) rfl rfl rfl I Mb1 rfl (SrcT.row Mb0 s rfl) P rfl rfl rfl rfl rfl rfl rfl rfl (fun ac U C L => ⟨_, (.there .here), ⟨(Ic Mb2 In0), ?_⟩⟩)
 refine Aw.shift (Re0 (Sd ⟨(Ic Mb1 In0), ?_⟩))
 refine Ao 9 Z ?_
 have M := J.mono C
 refine ga (T := fP) (bytes := 48) (q := 0) rfl rfl rfl L Mb0 rfl (SrcT.sl M) Q rfl rfl rfl rfl rfl rfl rfl rfl (fun p V X N => ⟨_, .here, ⟨(Ic Mb1 In0), ?_⟩⟩)
 refine Ja 10 Z<|Ad<|fx<|?_
 obtain W := gn H
 subst e
 refine ⟨(.inl rfl), [(sv p)], ⟨(sv p), _, rfl, rfl, rfl⟩, ?_⟩
 exact Re1<|Sd<|⟨p, rfl, rfl, N⟩
theorem CX (p0 : f6) (b : SV) (g : SV) (p1 : Int) (p2 : Op) (C : SV) (D : SV) (h : f6) (q : ad8) (H : rC p0 p1 p2 = some (h, q)) (K : Kp) (G : List Ent) (I : Slr fF K (sv b) p0.chans) (aK : Slr fQ K (sv g) p0.waiting) (b4 : Slr fW K (sv C) p2.cases) (b5 : Slr Ty.i64 K (sv D) p2.draws) :
  Fc Tryz.prog 41 #[(.agg (fj p0 b g).toArray), (Vi p1), (.agg (fh p2 C D).toArray)] K (G) (fun v a c => ∃ (aX : SV) (aY : SV) (aA : SV), v = (.tuple #[(.agg (fj h aX aY).toArray), (sv aA)]) ∧ (.tok 67 6 [(sv aA)]) :: G = c ∧ Slr fF a (sv aX) h.chans ∧ Slr fQ a (sv aY) h.waiting ∧ Slr fP a (sv aA) q) := by
 refine fN Tryz.func41 rfl Tryz.ntmps41 Tryz.results41 rfl ?_
 unfold rC at H
 refine fc<|fa<|?_
 refine ff rfl (fR (cs := (fj p0 b g)) rfl rfl rfl (fun d => ?_))
 refine ff rfl (fR (cs := (fh p2 C D)) rfl rfl rfl (fun j => ?_))
 refine ff rfl (fC (cs := (fj (f6.mk [] [] 0) fB fB)) rfl rfl rfl rfl (fun e => ?_))
 refine Ea Z<|fb<|fc<|?_
 refine fz (fun i a c => ∃ (aw : Bool), [(1, (Vi p1)), (3, (Vp d)), (5, (Vp j)), (6, (Vp e)), (34, (.bool aw))] = i ∧ K = a ∧ (.blk e 60 (fj (f6.mk [] [] 0) fB fB)) :: (.blk j 51 (fh p2 C D)) :: (.blk d 60 (fj p0 b g)) :: G = c ∧ oC p1 p2 p0 aw = some (h, q)) ?_ ?_
 ·refine fa<|EF 2 Z<|El (Vi p2.channel) Z (Rb1 Z)<|Ec Z<|Em Z<|?_
  refine Ee Z ?_ ?_
  ·intro X
   obtain ⟨X, H⟩ := It X H
   exact Ez Z<|Ez Z<|Ez Z<|Ez Z<|Ez Z<|Ez Z<|Et Z<|Em Z<|Ez Z<|Ez Z<|Ez Z<|Ez Z<|Ez Z<|Ez Z<|Ez Z<|Et Z<|fb<|Pu2<|Pu2<|Pu2<|Sd<|⟨_, by exact R5, true, rfl, rfl, rfl, H⟩
  ·intro X
   obtain ⟨X, H⟩ := If X H
   refine VF 2 Z<|Vl (Vi p2.channel) Z (Rb1 Z)<|VF 0 Z<|Vl (sv b) Z (Rb2 Z)<|Vq Z (gg (T := fF) I rfl rfl)<|Vc Z<|Ef Z<|Em Z<|?_
   refine Ee Z ?_ ?_
   ·intro Y
    obtain ⟨Y, H⟩ := It Y H
    exact Ez Z<|Ez Z<|Ez Z<|Ez Z<|Ez Z<|Ez Z<|Ez Z<|Et Z<|fb<|Pu2<|Pu2<|Pu2<|Sd<|⟨_, by exact R5, true, rfl, rfl, rfl, H⟩
   ·intro Y
    obtain ⟨Y, H⟩ := If Y H
    refine VF 0 Z<|Vl (sv b) Z (Rb2 Z)<|VF 2 Z<|Vl (Vi p2.channel) Z (Rb1 Z)<|?_
    obtain ⟨a1, aR, H⟩ := bnd H
    obtain ⟨ca, bb, a7⟩ := Slr.at I aR
    obtain ⟨cd, rfl, b6⟩ := bb
    exact Vq Z (Qi (T := fF) I aR Z)<|VF 2 Z<|Vl (.bool a1.closed) Z (Rdc.k a7 rfl)<|Ef Z<|fb<|Pu2<|Pu2<|Pu2<|Sd<|⟨_, by exact R5, a1.closed, rfl, rfl, rfl, H⟩
 rintro _ _ _ - ⟨aw, rfl, rfl, rfl, H⟩
 unfold oC at H
 refine fm rfl ?_ ?_
 ·intro ap
  have H := ift ap H
  refine fc<|fa<|EL 3 (fj p0 b g) Z (Rb2 Z)<|Em Z<|Eq Z (fH (cs := (fe (Result.mk 5 (-1) 0 false 0))) rfl rfl rfl rfl rfl rfl)<|Eq Z (fH (cs := (fK (Done.mk p1 (Result.mk 5 (-1) 0 false 0)))) rfl rfl rfl rfl rfl rfl)<|?_
  have aH : RowR fP K [(fK (Done.mk p1 (Result.mk 5 (-1) 0 false 0)))] [(Done.mk p1 (Result.mk 5 (-1) 0 false 0))] := RowR.cons rfl (RowR.nil)
  refine ff rfl (gk (T := fP) (rows := [(fK (Done.mk p1 (Result.mk 5 (-1) 0 false 0)))]) (l := [(Done.mk p1 (Result.mk 5 (-1) 0 false 0))]) rfl rfl rfl aH rfl rfl rfl rfl rfl rfl rfl rfl (fun az => ?_))
  refine ff rfl (Sa (fj p0 b g) Z (.there .here) Z ?_)
  refine Ea Z<|fb<|fx<|?_
  obtain ⟨a3, a4⟩ := hY H
  subst h q
  refine ⟨(.inl rfl), [(.agg (fj p0 b g).toArray), (sv az)], ⟨(.agg (fj p0 b g).toArray), _, rfl, ⟨_, 3, (fj p0 b g), rfl, rfl, rfl, rfl, ⟨rfl, Rb1 Z⟩, rfl⟩, ⟨(sv az), _, rfl, rfl, rfl⟩⟩, ?_⟩
  refine Shift.settle (T := fP) .here aH rfl ?_
  intro bV aE bt
  refine Re1<|Re1<|Re1<|?_
  have bu := I.mono aE
  have bv := aK.mono aE
  exact Sd ⟨b, g, az, rfl, rfl, bu, bv, bt⟩
 ·intro ap
  have H := fX (btf ap) H
  refine ft<|fc<|fa<|EF 0 Z<|El (sv b) Z (Rb2 Z)<|EF 2 Z<|El (Vi p2.channel) Z (Rb1 Z)<|?_
  obtain ⟨F, aS, H⟩ := bnd H
  obtain ⟨cb, bc, a8⟩ := Slr.at I aS
  obtain ⟨ah, rfl, bw⟩ := bc
  refine Eq Z (Qi (T := fF) I aS Z)<|EL 3 (fy F ah) Z (Rdc.k a8 rfl)<|?_
  refine ff rfl (fC (cs := (fy (fJ.mk 0 [] false) fB)) rfl rfl rfl rfl (fun bZ => ?_))
  refine ff rfl (Sa (fy F ah) Z .here Z ?_)
  refine fb<|fc<|fa<|EF 2 Z<|?_
  refine ff rfl (So [(.bool true)] (fy (fJ.mk F.capacity F.buffer true) ah) Z .here Z ?_)
  refine fb<|fc<|fa<|EL 3 (fj p0 b g) Z (Rb3 Z)<|EF 2 Z<|El (Vi p2.channel) Z (Rb2 Z)<|EL 3 (fy (fJ.mk F.capacity F.buffer true) ah) Z (Rb0 Z)<|?_
  obtain ⟨ak, bM, H⟩ := bnd H
  refine ff rfl (Ek Tryz.call73 Z (nz p0 b g p2.channel (fJ.mk F.capacity F.buffer true) ah ak bM _ _ I aK bw) ?_)
  rintro _ _ _ - ⟨aV, cc, aW, rfl, rfl, rfl, bx, bz⟩
  refine ff rfl (Sa (fj ak aV aW) Z (.there (.there (.there (.there .here)))) Z ?_)
  refine fb<|fc<|fa<|Em Z<|Eq Z (fH (cs := (fe (Result.mk 6 (-1) 0 false 0))) rfl rfl rfl rfl rfl rfl)<|Eq Z (fH (cs := (fK (Done.mk p1 (Result.mk 6 (-1) 0 false 0)))) rfl rfl rfl rfl rfl rfl)<|?_
  have aI : RowR fP K [(fK (Done.mk p1 (Result.mk 6 (-1) 0 false 0)))] [(Done.mk p1 (Result.mk 6 (-1) 0 false 0))] := RowR.cons rfl (RowR.nil)
  refine ff rfl (gk (T := fP) (rows := [(fK (Done.mk p1 (Result.mk 6 (-1) 0 false 0)))]) (l := [(Done.mk p1 (Result.mk 6 (-1) 0 false 0))]) rfl rfl rfl aI rfl rfl rfl rfl rfl rfl rfl rfl (fun bP => ?_))
  refine Ea Z<|fb<|?_
  refine fz (fun i a c => ∃ (N : SV) (av : ad8) (x : SV) (t : ad0) (y : SV) (u : af1) (A : Int), [(3, (Vp d)), (6, (Vp e)), (9, (sv N))] = i ∧ (.blk e 60 (fj (f6.mk [] [] 0) fB fB)) :: (.blk d 60 (fj (f6.mk t u A) x y)) :: (.tok 67 6 [(sv N)]) :: G = c ∧ rB av t u A = some (h, q) ∧ Slr fP a (sv N) av ∧ Slr fF a (sv x) t ∧ Slr fQ a (sv y) u) ?_ ?_
  ·refine fc<|fa<|Ea Z<|fb<|fA<|?_
   refine f7 (fun aU i a c => ∃ (R : SV) (af : ad8) (f : Int) (ai : SV) (P : ad0) (aj : SV) (Q : af1) (ac : Int), [(3, (Vp d)), (5, (Vp j)), (6, (Vp e)), (9, (sv R)), (10, (Vi f))] = i ∧ (.blk e 60 (fj (f6.mk [] [] 0) fB fB)) :: (.blk j 51 (fh p2 C D)) :: (.blk d 60 (fj (f6.mk P Q ac) ai aj)) :: (.tok 67 6 [(sv R)]) :: G = c ∧ lp5 (sL p2) aU af f P Q ac = some (h, q) ∧ Slr fP a (sv R) af ∧ Slr fF a (sv ai) P ∧ Slr fQ a (sv aj) Q) BIG ?_ ?_
   ·refine Shift.settle (T := fP) .here aI rfl ?_
    intro bW aF bD
    have bF := bx.mono aF
    refine Shift.settle (T := fF) (.there .here) bF rfl ?_
    intro bX aG bE
    refine Pu5<|Pu5<|Pu5<|Re4<|Re4<|?_
    have bG := bD.mono aG
    have bH := (bz.mono aF).mono aG
    exact Sd ⟨_, by exact R5, bP, [(Done.mk p1 (Result.mk 6 (-1) 0 false 0))], 0, aV, ak.chans, aW, ak.waiting, ak.tick, rfl, rfl, H, bG, bE, bH⟩
   rintro aU _ bY _ b3 ⟨R, af, f, ai, P, aj, Q, ac, rfl, rfl, H, aN, aO, aP⟩
   obtain ⟨b8, au, rfl, a9, H⟩ := EZ H
   unfold sL at H
   refine fc<|fc<|fa<|Em Z<|Ec Z<|fb<|?_
   refine fm rfl ?_ ?_
   ·intro aa
    obtain ⟨aa, H⟩ := It aa H
    refine ft ?_
    refine fz (fun i a c => ∃ (ag : SV) (am : ad8) (an : SV) (ad : ad0) (ao : SV) (ae : af1) (al : Int), [(3, (Vp d)), (5, (Vp j)), (6, (Vp e)), (9, (sv ag)), (10, (Vi f))] = i ∧ (.blk e 60 (fj (f6.mk [] [] 0) fB fB)) :: (.blk j 51 (fh p2 C D)) :: (.blk d 60 (fj (f6.mk ad ae al) an ao)) :: (.tok 67 6 [(sv ag)]) :: G = c ∧ vM f p2 au am ad ae al = some (h, q) ∧ Slr fP a (sv ag) am ∧ Slr fF a (sv an) ad ∧ Slr fQ a (sv ao) ae) ?_ ?_
    ·refine fA<|fc<|fa<|Ea Z<|fb<|fA<|?_
     refine f7 (fun aT i a c => ∃ (w : SV) (J : ad8) (r : Int) (B : SV) (m : ad0) (o : SV) (n : af1) (s : Int), [(3, (Vp d)), (5, (Vp j)), (6, (Vp e)), (9, (sv w)), (10, (Vi f)), (11, (Vi r))] = i ∧ (.blk e 60 (fj (f6.mk [] [] 0) fB fB)) :: (.blk j 51 (fh p2 C D)) :: (.blk d 60 (fj (f6.mk m n s) B o)) :: (.tok 67 6 [(sv w)]) :: G = c ∧ lp5 (oz f p2 au) aT J r m n s = some (h, q) ∧ Slr fP a (sv w) J ∧ Slr fF a (sv B) m ∧ Slr fQ a (sv o) n) BIG ?_ ?_
     ·exact Pu3<|Pu3<|Pu3<|Pu3<|Sd<|⟨_, by exact R6, R, af, 0, ai, P, aj, Q, ac, rfl, rfl, H, aN, aO, aP⟩
     rintro aT _ bQ _ b0 ⟨w, J, r, B, m, o, n, s, rfl, rfl, H, aq, ar, O⟩
     obtain ⟨b7, bN, rfl, aJ, H⟩ := EZ H
     unfold oz at H
     refine fc<|fc<|fa<|Em Z<|EF 1 Z<|El (sv o) Z (Rb2 Z)<|Eq Z (gg (T := fQ) O rfl rfl)<|Ec Z<|fb<|?_
     refine fm rfl ?_ ?_
     ·intro U
      obtain ⟨U, H⟩ := It U H
      refine ft<|fA<|fc<|fa<|EF 1 Z<|El (sv o) Z (Rb2 Z)<|Em Z<|?_
      obtain ⟨p, aQ, H⟩ := bnd H
      obtain ⟨b9, ba, a6⟩ := Slr.at O aQ
      obtain ⟨L, M, rfl, aL, aM⟩ := ba
      refine Eq Z (Qi (T := fQ) O aQ Z)<|EL 8 (gw p L M) Z (Rdc.k a6 rfl)<|?_
      refine ff rfl (fC (cs := (gw (gJ.mk 0 (Op.mk 0 0 0 0 0 [] [])) fB fB)) rfl rfl rfl rfl (fun aB => ?_))
      refine ff rfl (Sa (gw p L M) Z .here Z ?_)
      refine fb<|fc<|fa<|EF 1 Z<|EL 7 (fh p.op L M) Z (Rb0 Z)<|EF 2 Z<|El (Vi p2.channel) Z (Rb2 Z)<|Em Z<|Ec Z<|?_
      obtain ⟨aZ, bI, H⟩ := bnd H
      refine ff rfl (Ek Tryz.call74 Z (qs p.op L M p2.channel (dcd (f = 1)) aZ bI _ _ aL aM) ?_)
      rintro _ a2 _ z ⟨rfl, rfl⟩
      refine Ea Z<|fb<|fc<|fc<|fa<|Em Z<|Ec Z<|fb<|?_
      refine fm rfl ?_ ?_
      ·intro V
       obtain ⟨V, H⟩ := It V H
       refine fc<|fa<|Em Z<|Er (wI (r + 1)) Z<|Ea Z<|fb<|f9<|Pu4<|Pu4<|Pu4<|Pu4<|Re4<|?_
       have bg := aq.mono z
       have bh := ar.mono z
       have bi := O.mono z
       exact Sd ⟨_, by exact R6, _, Nat.lt_succ_self _, w, J, (wI (r + 1)), B, m, o, n, s, rfl, rfl, (aJ ▸ H), bg, bh, bi⟩
      ·intro V
       obtain ⟨V, H⟩ := If V H
       refine ft<|fc<|fa<|EF 1 Z<|EL 7 (fh p.op L M) Z (Rb0 Z)<|Em Z<|?_
       obtain ⟨E, bJ, H⟩ := bnd H
       have bj := aL.mono z
       have bk := aM.mono z
       refine ff rfl (Ek Tryz.call75 Z (nA p.op L M aZ E bJ _ _ bj bk) ?_)
       rintro _ _ _ - ⟨rfl, rfl, rfl⟩
       refine Eq Z (fH (cs := (fe (Result.mk 2 E 0 false 0))) rfl rfl rfl rfl rfl rfl) ?_
       refine ff rfl (fC (cs := (fe (Result.mk 0 0 0 false 0))) rfl rfl rfl rfl (fun aC => ?_))
       refine ff rfl (Sa (fe (Result.mk 2 E 0 false 0)) Z .here Z ?_)
       refine fb ?_
       refine fz (fun i a c => ∃ (ab : Int), [(3, (Vp d)), (5, (Vp j)), (6, (Vp e)), (9, (sv w)), (10, (Vi f)), (11, (Vi r)), (12, (Vp aB)), (14, (Vp aC))] = i ∧ a2 = a ∧ (.blk aC 38 (fe (Result.mk ab E 0 false 0))) :: (.blk aB 96 (gw p L M)) :: (.blk e 60 (fj (f6.mk [] [] 0) fB fB)) :: (.blk j 51 (fh p2 C D)) :: (.blk d 60 (fj (f6.mk m n s) B o)) :: (.tok 67 6 [(sv w)]) :: G = c ∧ oy J f r E p p2 m n s au bN ab = some (h, q)) ?_ ?_
       ·refine fc<|fa<|Em Z<|Ec Z<|fb<|?_
        refine fm rfl ?_ ?_
        ·intro W
         obtain ⟨W, H⟩ := It W H
         refine fa<|EF 0 Z<|?_
         refine ff rfl (So [(Vi 5)] (fe (Result.mk 5 E 0 false 0)) Z .here Z ?_)
         exact fb<|Pu5<|Pu5<|Pu5<|Pu5<|Pu5<|Pu5<|Sd<|⟨_, by exact R8, 5, rfl, rfl, rfl, H⟩
        ·intro W
         obtain ⟨W, H⟩ := If W H
         exact ft<|Pu5<|Pu5<|Pu5<|Pu5<|Pu5<|Pu5<|Sd<|⟨_, by exact R8, 2, rfl, rfl, rfl, H⟩
       rintro _ _ _ - ⟨ab, rfl, rfl, rfl, H⟩
       unfold oy at H
       refine fc<|fa<|EL 3 (fj (f6.mk m n s) B o) Z (Rb4 Z)<|Em Z<|?_
       obtain ⟨S, bK, H⟩ := bnd H
       have bl := ar.mono z
       have bm := O.mono z
       refine ff rfl (Ek Tryz.call76 Z (xf (f6.mk m n s) B o r S bK _ _ bl bm) ?_)
       rintro _ bR _ a5 ⟨ax, ay, rfl, rfl, bn, bo⟩
       refine ff rfl (jU (vs := (fj S ax ay)) (all' := (fj S ax ay)) rfl rfl rfl rfl rfl (.there (.there (.there (.there (.there .here))))) rfl rfl rfl ?_)
       refine fb<|fa<|Em Z<|EF 0 Z<|El (Vi p.thread) Z (Rb2 Z)<|EL 5 (fe (Result.mk ab E 0 false 0)) Z (Rb1 Z)<|?_
       obtain ⟨a0, bL, H⟩ := bnd H
       have bp := (aq.mono z).mono a5
       refine ff rfl (Ek Tryz.call77 Z (qu J w p.thread (Result.mk ab E 0 false 0) a0 bL _ _ bp) ?_)
       rintro _ bS _ aD ⟨bO, rfl, rfl, bq⟩
       refine Ea Z<|fb<|Pu6<|Pu6<|Pu6<|Re4<|Re4<|Re4<|Re4<|?_
       have br := bn.mono aD
       have bs := bo.mono aD
       exact Sd ⟨_, by exact R6, _, Nat.lt_succ_self _, bO, a0, r, ax, S.chans, ay, S.waiting, S.tick, rfl, rfl, (aJ ▸ H), bq, br, bs⟩
     ·intro U
      obtain ⟨U, H⟩ := If U H
      exact f9<|Pu3<|Pu3<|Pu3<|Pu3<|Sd<|⟨_, by exact R5, w, J, B, m, o, n, s, rfl, rfl, H, aq, ar, O⟩
    rintro _ bT _ b1 ⟨ag, am, an, ad, ao, ae, al, rfl, rfl, H, bd, be, bf⟩
    unfold vM at H
    exact fa<|Em Z<|Er (wI (f + 1)) Z<|Ea Z<|fb<|Pu3<|Pu3<|Pu3<|Pu3<|Sd<|⟨_, by exact R5, _, Nat.lt_succ_self _, ag, am, (wI (f + 1)), an, ad, ao, ae, al, rfl, rfl, (a9 ▸ H), bd, be, bf⟩
   ·intro aa
    obtain ⟨aa, H⟩ := If aa H
    exact f9<|Pu3<|Pu3<|Pu2<|Re3<|Sd<|⟨_, by exact R3, R, af, ai, P, aj, Q, ac, rfl, rfl, H, aN, aO, aP⟩
  rintro _ bU _ b2 ⟨N, av, x, t, y, u, A, rfl, rfl, H, bA, bB, bC⟩
  unfold rB at H
  refine fc<|fa<|EL 3 (fj (f6.mk t u A) x y) Z (Rb1 Z)<|Em Z<|?_
  refine ff rfl (Sa (fj (f6.mk t u A) x y) Z .here Z ?_)
  refine Ea Z<|fb<|fx<|?_
  obtain ⟨a3, a4⟩ := hY H
  subst h q
  refine ⟨(.inl rfl), [(.agg (fj (f6.mk t u A) x y).toArray), (sv N)], ⟨(.agg (fj (f6.mk t u A) x y).toArray), _, rfl, ⟨_, 3, (fj (f6.mk t u A) x y), rfl, rfl, rfl, rfl, ⟨rfl, Rb0 Z⟩, rfl⟩, ⟨(sv N), _, rfl, rfl, rfl⟩⟩, ?_⟩
  exact Pu2<|Re1<|Re1<|Sd<|⟨x, y, N, rfl, rfl, bB, bC, bA⟩
theorem ya (p0 : f6) (i : SV) (a : SV) (p1 : Int) (p2 : Case) (f : Int) (H : oD p0 p1 p2 = some f) (K : Kp) (G : List Ent) (M : Slr fF K (sv i) p0.chans) (N : Slr fQ K (sv a) p0.waiting) :
  Fc Tryz.prog 80 #[(.agg (fj p0 i a).toArray), (Vi p1), (.agg (fk p2).toArray)] K (G) (fun v m b => v = (Vi f) ∧ G = b) := by
 refine fN Tryz.func80 rfl Tryz.ntmps80 Tryz.results80 rfl ?_
 unfold oD at H
 refine fc<|fa<|?_
 refine ff rfl (fR (cs := (fj p0 i a)) rfl rfl rfl (fun j => ?_))
 refine ff rfl (fR (cs := (fk p2)) rfl rfl rfl (fun l => ?_))
 refine Ea Z<|fb<|fc<|?_
 refine fz (fun g m b => ∃ (s : Bool), [(1, (Vi p1)), (3, (Vp j)), (5, (Vp l)), (18, (.bool s))] = g ∧ K = m ∧ (.blk l 108 (fk p2)) :: (.blk j 60 (fj p0 i a)) :: G = b ∧ rG p1 p2 p0 s = some f) ?_ ?_
 ·refine fa<|EF 1 Z<|El (Vi p2.channel) Z (Rb0 Z)<|Ec Z<|Em Z<|?_
  refine Ee Z ?_ ?_
  ·intro n
   obtain ⟨n, H⟩ := It n H
   exact Ez Z<|Ez Z<|Ez Z<|Ez Z<|Ez Z<|Ez Z<|Et Z<|fb<|Pu1<|Pu1<|Sd<|⟨_, by exact R4, true, rfl, rfl, rfl, H⟩
  ·intro n
   obtain ⟨n, H⟩ := If n H
   exact VF 1 Z<|Vl (Vi p2.channel) Z (Rb0 Z)<|VF 0 Z<|Vl (sv i) Z (Rb1 Z)<|Vq Z (gg (T := fF) M rfl rfl)<|Vc Z<|Ef Z<|fb<|Pu1<|Pu1<|Sd<|⟨_, by exact R4, (dcd (p2.channel ≥ (p0.chans.length : Int))), rfl, rfl, rfl, H⟩
 rintro _ _ _ - ⟨s, rfl, rfl, rfl, H⟩
 unfold rG at H
 refine fm rfl ?_ ?_
 ·intro q
  have H := ift q H
  refine fc<|fa<|Ea Z<|fb<|fx<|?_
  obtain w := gn H
  subst f
  refine ⟨(.inl rfl), [(Vi (-1))], ⟨(Vi (-1)), _, rfl, rfl, rfl⟩, ?_⟩
  exact Re0<|Re0<|Sd<|⟨rfl, rfl⟩
 ·intro q
  have H := fX (btf q) H
  refine ft ?_
  refine fz (fun g m b => [] = g ∧ G = b ∧ zh = some f) ?_ ?_
  ·refine fc<|fa<|Ea Z<|fb<|fA<|?_
   refine f7 (fun z g m b => ∃ (e : Int), [(1, (Vi p1)), (3, (Vp j)), (5, (Vp l)), (7, (Vi e))] = g ∧ (.blk l 108 (fk p2)) :: (.blk j 60 (fj p0 i a)) :: G = b ∧ lp1 (rF p1 p2 p0) z e = some f) BIG ?_ ?_
   ·exact Pu1<|Pu1<|Sd<|⟨_, by exact R4, 0, rfl, rfl, H⟩
   rintro z _ W _ E ⟨e, rfl, rfl, H⟩
   obtain ⟨ai, V, rfl, L, H⟩ := lx H
   unfold rF at H
   refine fc<|fc<|fa<|Em Z<|EF 1 Z<|El (sv a) Z (Rb1 Z)<|?_
   have h := N.mono E
   refine Eq Z (gg (T := fQ) h rfl rfl)<|Ec Z<|fb<|?_
   refine fm rfl ?_ ?_
   ·intro o
    obtain ⟨o, H⟩ := It o H
    refine ft<|fc<|fA<|?_
    refine fz (fun g m b => ∃ (t : Bool), [(1, (Vi p1)), (3, (Vp j)), (5, (Vp l)), (7, (Vi e)), (48, (.bool t))] = g ∧ (.blk l 108 (fk p2)) :: (.blk j 60 (fj p0 i a)) :: G = b ∧ rE p1 e p2 p0 V t = some f) ?_ ?_
    ·obtain ⟨u, p, H⟩ := bnd H
     rcases gR (!(dcd (u.thread = p1))) with x | x <;> revert x
     ·intro c
      have c := lG (ix (c))
      have H := fX c H
      obtain ⟨C, y, H⟩ := bnd H
      obtain ⟨D, U, H⟩ := bnd H
      refine fq _ rfl (Ic Mb0 (Ic Mb1 In0))<|JF 0 1 Z<|Jl 1 (sv a) Z (Rb1 Z)<|Jm 2 Z<|?_
      obtain ⟨aj, O, F⟩ := Slr.at h p
      obtain ⟨am, an, rfl, ae, af⟩ := O
      refine Jq 3 Z (Qi (T := fQ) h p Z)<|JF 4 0 Z<|Jl 5 (Vi u.thread) Z (Rdc.k F rfl)<|Jm 6 Z<|Jc 7 Z<|Jm 8 Z<|Aw.known (d := 34) rfl (lK (iq c))<|BF 9 1 Z<|Bl 10 (sv a) Z (Rb1 Z)<|Bm 11 Z<|?_
      obtain ⟨ak, P, I⟩ := Slr.at h y
      obtain ⟨A, B, rfl, R, S⟩ := P
      refine Bq 12 Z (Qi (T := fQ) h y Z)<|BF 13 1 Z<|BL 14 7 (fh C.op A B) Z (Rdc.k I rfl)<|BF 15 1 Z<|Bl 16 (Vi p2.channel) Z (Rb0 Z)<|BF 17 0 Z<|Bl 18 (.bool p2.send) Z (Rb0 Z)<|Bq 19 Z (gi rfl)<|?_
      refine gB 20 (by kernel_rfl) (jJ rfl rfl rfl rfl rfl ?_)
      refine Ek Tryz.call74 Z (qs C.op A B p2.channel (!(p2.send)) D U _ _ R S) ?_
      rintro _ X _ ab ⟨rfl, rfl⟩
      refine ⟨(Ic Mb0 (Ic Mb1 In0)), ?_⟩
      exact Bc 21 Z<|Jt 22 Z<|Ad<|Pu1<|Pu1<|Sd<|⟨_, by exact R5, (dcd (D ≥ 0)), rfl, rfl, H⟩
     ·intro c
      have c := lH (iw (c))
      have H := ift c H
      refine fq _ rfl (Ic Mb0 (Ic Mb1 In0))<|JF 0 1 Z<|Jl 1 (sv a) Z (Rb1 Z)<|Jm 2 Z<|?_
      obtain ⟨al, Q, J⟩ := Slr.at h p
      obtain ⟨ao, ap, rfl, ag, ah⟩ := Q
      refine Jq 3 Z (Qi (T := fQ) h p Z)<|JF 4 0 Z<|Jl 5 (Vi u.thread) Z (Rdc.k J rfl)<|Jm 6 Z<|Jc 7 Z<|Jm 8 Z<|Aw.known (d := 34) rfl (lJ (hZ c))<|Jz 9 Z<|Jz 10 Z<|Jz 11 Z<|Jz 12 Z<|Jz 13 Z<|Jz 14 Z<|Jz 15 Z<|Jz 16 Z<|Jz 17 Z<|Jz 18 Z<|Jz 19 Z<|Jz 20 Z<|Jz 21 Z<|Jf 22 Z<|Ad<|?_
      exact Pu1<|Pu1<|Sd<|⟨_, by exact R5, false, rfl, rfl, H⟩
    rintro _ Y _ ac ⟨t, rfl, rfl, H⟩
    unfold rE at H
    refine fm rfl ?_ ?_
    ·intro r
     have H := ift r H
     refine fc<|fa<|Em Z<|Ea Z<|fb<|fx<|?_
     obtain w := gn H
     subst f
     refine ⟨(.inl rfl), [(Vi e)], ⟨(Vi e), _, rfl, rfl, rfl⟩, ?_⟩
     exact Re0<|Re0<|Sd<|⟨rfl, rfl⟩
    ·intro r
     have H := fX (btf r) H
     exact ft<|fa<|Em Z<|Er (wI (e + 1)) Z<|Ea Z<|fb<|Pu1<|Pu1<|Sd<|⟨_, by exact R4, _, Nat.lt_succ_self _, (wI (e + 1)), rfl, rfl, (L ▸ H)⟩
   ·intro o
    obtain ⟨o, H⟩ := If o H
    exact f9<|Re0<|Re0<|Sd<|⟨[], trivial, rfl, rfl, H⟩
  rintro _ aa _ ad ⟨rfl, rfl, H⟩
  unfold zh at H
  refine fc<|fa<|Ea Z<|fb<|fx<|?_
  obtain w := gn H
  subst f
  refine ⟨(.inl rfl), [(Vi (-1))], ⟨(Vi (-1)), _, rfl, rfl, rfl⟩, ?_⟩
  exact Sd ⟨rfl, rfl⟩
theorem yb (p0 : f6) (a : SV) (b : SV) (p1 : Int) (p2 : Case) (c : Bool) (H : oG p0 p1 p2 = some c) (K : Kp) (G : List Ent) (f : Slr fF K (sv a) p0.chans) (i : Slr fQ K (sv b) p0.waiting) :
  Fc Tryz.prog 43 #[(.agg (fj p0 a b).toArray), (Vi p1), (.agg (fk p2).toArray)] K (G) (fun v l g => v = (.bool c) ∧ G = g) := by
 refine fN Tryz.func43 rfl Tryz.ntmps43 Tryz.results43 rfl ?_
 unfold oG at H
 refine fc<|fa<|?_
 refine ff rfl (fR (cs := (fj p0 a b)) rfl rfl rfl (fun n => ?_))
 refine ff rfl (fR (cs := (fk p2)) rfl rfl rfl (fun o => ?_))
 refine Ea Z<|fb<|fc<|fa<|EF 0 Z<|El (sv a) Z (Rb1 Z)<|EL 3 (fk p2) Z (Rb0 Z)<|?_
 obtain ⟨x19, j, H⟩ := bnd H
 refine ff rfl (Ek Tryz.call79 Z (Aa p0.chans a p2 x19 j _ _ f) ?_)
 rintro _ _ _ - ⟨rfl, rfl, rfl⟩
 refine Em Z ?_
 refine Ee Z ?_ ?_
 ·intro d
  have H := ift d H
  refine Ez Z<|Ez Z<|Ez Z<|Ez Z<|Ez Z<|Et Z<|Ea Z<|fb<|fx<|?_
  obtain h := gn H
  subst c
  refine ⟨(.inl rfl), [(.bool true)], ⟨(.bool true), _, rfl, rfl, rfl⟩, ?_⟩
  exact Re0<|Re0<|Sd<|⟨rfl, rfl⟩
 ·intro d
  have H := fX (btf d) H
  refine VL 3 (fj p0 a b) Z (Rb1 Z)<|Vm Z<|VL 3 (fk p2) Z (Rb0 Z)<|?_
  obtain ⟨e, k, H⟩ := bnd H
  refine ib rfl rfl rfl rfl (Ek Tryz.call80 Z (ya p0 a b p1 p2 e k _ _ f i) ?_)
  rintro _ m _ p ⟨rfl, rfl⟩
  refine Vc Z<|Ef Z<|Ea Z<|fb<|fx<|?_
  obtain h := gn H
  subst c
  refine ⟨(.inl rfl), [(.bool (dcd (e ≥ 0)))], ⟨(.bool (dcd (e ≥ 0))), _, rfl, rfl, rfl⟩, ?_⟩
  exact Re0<|Re0<|Sd<|⟨rfl, rfl⟩
end Go.Hx
namespace Go.Hx
open Go Go.Proofs
set_option maxRecDepth 10000
set_option maxHeartbeats 1000000
theorem CY (p0 : ad1) (g : SV) (p1 : Int) (c : Int) (H : rD p0 p1 = some c) (K : Kp) (G : List Ent) (d : Slr Ty.i64 K (sv g) p0) :
  Fc Tryz.prog 121 #[(sv g), (Vi p1)] K (G) (fun v i h => v = (Vi c) ∧ K = i ∧ G = h) := by
 refine fN Tryz.func121 rfl Tryz.ntmps121 Tryz.results121 rfl ?_
 unfold rD at H
 refine fc<|fa<|Ea Z<|fb<|fc<|fc<|fa<|Em Z<|Em Z<|Eq Z (gg (T := Ty.i64) d rfl rfl)<|Ec Z<|fb<|?_
 refine fm rfl ?_ ?_
 ·intro a
  obtain ⟨a, H⟩ := It a H
  refine fc<|fa<|Ea Z<|fb<|fx<|?_
  obtain e := gn H
  subst c
  refine ⟨(.inl rfl), [(Vi 0)], ⟨(Vi 0), _, rfl, rfl, rfl⟩, ?_⟩
  exact Sd ⟨rfl, rfl, rfl⟩
 ·intro a
  obtain ⟨a, H⟩ := If a H
  refine ft<|fc<|fa<|Em Z<|Em Z<|?_
  obtain ⟨x12, f, H⟩ := bnd H
  obtain ⟨_, rfl, j⟩ := Slr.at d f
  refine Eq Z (Qi (T := Ty.i64) d f Z)<|El (Vi x12) Z (Rdc.k j rfl)<|Em Z<|Er (wI (p1 + 1)) Z<|?_
  obtain ⟨x17, l, H⟩ := bnd H
  refine Eq Z (B2 l rfl rfl)<|Ea Z<|fb<|fc<|fc<|fa<|Em Z<|Ec Z<|fb<|?_
  refine fm rfl ?_ ?_
  ·intro b
   obtain ⟨b, H⟩ := It b H
   refine fa<|Em Z<|Em Z<|Er (wI (p1 + 1)) Z<|Er (wI (x17 + (wI (p1 + 1)))) Z<|Ea Z<|fb<|fc<|fa<|Em Z<|Ea Z<|fb<|fx<|?_
   obtain e := gn H
   subst c
   refine ⟨(.inl rfl), [(Vi (wI (x17 + (wI (p1 + 1)))))], ⟨(Vi (wI (x17 + (wI (p1 + 1))))), _, rfl, rfl, rfl⟩, ?_⟩
   exact Sd ⟨rfl, rfl, rfl⟩
  ·intro b
   obtain ⟨b, H⟩ := If b H
   refine ft<|fc<|fa<|Em Z<|Ea Z<|fb<|fx<|?_
   obtain e := gn H
   subst c
   refine ⟨(.inl rfl), [(Vi x17)], ⟨(Vi x17), _, rfl, rfl, rfl⟩, ?_⟩
   exact Sd ⟨rfl, rfl, rfl⟩
theorem ER (p0 : Int) (p1 : ad1) (k : SV) (h : ad1) (H : xM p0 p1 = some h) (K : Kp) (G : List Ent) (ag : Slr Ty.i64 K (sv k) p1) :
  Fc Tryz.prog 106 #[(Vi p0), (sv k)] K (G) (fun v b c => ∃ (S : SV) (R : List (List Value)), v = (sv S) ∧ (.row (sv S) 3 1 R.flatten) :: G = c ∧ RowR Ty.i64 b R h) := by
 refine fN Tryz.func106 rfl Tryz.ntmps106 Tryz.results106 rfl ?_
 unfold xM at H
 refine fc<|fa<|Ea Z<|fb<|fc<|?_
 refine fz (fun g b c => ∃ (F : Bool), [(0, (Vi p0)), (1, (sv k)), (16, (.bool F))] = g ∧ K = b ∧ G = c ∧ qF p0 p1 F = some h) ?_ ?_
 ·refine fa<|Em Z<|Ec Z<|Em Z<|?_
  refine Ee Z ?_ ?_
  ·intro n
   obtain ⟨n, H⟩ := It n H
   exact Ez Z<|Ez Z<|Et Z<|fb<|Sd<|⟨_, by exact R3, true, rfl, rfl, rfl, H⟩
  ·intro n
   obtain ⟨n, H⟩ := If n H
   exact Vm Z<|Vc Z<|Ef Z<|fb<|Sd<|⟨_, by exact R3, (dcd (p0 > 20)), rfl, rfl, rfl, H⟩
 rintro _ _ _ - ⟨F, rfl, rfl, rfl, H⟩
 unfold qF at H
 refine fm rfl ?_ ?_
 ·intro A
  have H := ift A H
  refine fc<|fa<|Ea Z<|fb<|fx<|?_
  obtain V := gn H
  subst h
  refine ⟨(.inl rfl), [(sv fB)], ⟨(sv fB), _, rfl, rfl, rfl⟩, ?_⟩
  have X : RowR Ty.i64 K [] [] := RowR.nil
  exact Shift.nilRow 3 1<|Sd<|⟨fB, ([] : List (List Value)), rfl, rfl, X⟩
 ·intro A
  have H := fX (btf A) H
  refine ft<|fc<|fa<|Em Z<|?_
  obtain ⟨aq, an, H⟩ := bnd H
  refine ff rfl (jx (T := Ty.i64) (r := [(Vi 0)]) rfl rfl rfl an rfl rfl rfl rfl rfl rfl rfl rfl rfl rfl (fun f ap Y ay => ?_))
  refine Ea Z<|fb<|?_
  refine fz (fun g b c => ∃ (x : ad1) (y : List (List Value)), [(0, (Vi p0)), (1, (sv k)), (5, (sv f))] = g ∧ (.row (sv f) 3 1 y.flatten) :: G = c ∧ uY p0 p1 x = some h ∧ RowR Ty.i64 b y x) ?_ ?_
  ·refine fc<|fa<|Ea Z<|fb<|fA<|?_
   refine f7 (fun n207 g b c => ∃ (m : ad1) (s : List (List Value)) (a : Int), [(0, (Vi p0)), (1, (sv k)), (5, (sv f)), (6, (Vi a))] = g ∧ K = b ∧ (.row (sv f) 3 1 s.flatten) :: G = c ∧ lp2 (uZ p0 p1) n207 m a = some h ∧ RowR Ty.i64 b s m) BIG ?_ ?_
   ·exact Sd ⟨_, by exact R4, aq, ap, 0, rfl, rfl, rfl, H, Y⟩
   rintro n207 _ _ _ - ⟨m, s, a, rfl, rfl, rfl, H, q⟩
   obtain ⟨aB, az, rfl, ae, H⟩ := jL H
   unfold uZ at H
   refine fc<|fc<|fa<|Em Z<|Em Z<|Ec Z<|fb<|?_
   refine fm rfl ?_ ?_
   ·intro o
    obtain ⟨o, H⟩ := It o H
    refine ft<|fc<|fA<|fa<|Em Z<|Em Z<|Em Z<|?_
    obtain ⟨aI, L, H⟩ := bnd H
    obtain ⟨aD, B, ah⟩ := RowR.at q L
    obtain rfl := ah
    refine Eq Z (gz (T := Ty.i64) Mb0 q B (fL L).1 rfl rfl rfl rfl rfl) ?_
    refine ff rfl (gP (T := Ty.i64) (vs := [(Vi a)]) (r' := [(Vi a)]) (l' := (f8 m a a)) rfl rfl rfl rfl rfl .here q B rfl rfl rfl (RowR.set a q rfl) (fun ab => ?_))
    have au := iO B (v := [(Vi a)])
    exact fb<|fa<|Em Z<|Er (wI (a + 1)) Z<|Ea Z<|fb<|Sd<|⟨_, by exact R4, _, Nat.lt_succ_self _, (f8 m a a), (s.set a.toNat [(Vi a)]), (wI (a + 1)), rfl, rfl, rfl, (ae ▸ H), ab⟩
   ·intro o
    obtain ⟨o, H⟩ := If o H
    exact f9<|Sd<|⟨_, by exact R3, m, s, rfl, rfl, H, q⟩
  rintro _ U _ W ⟨x, y, rfl, rfl, H, aa⟩
  unfold uY at H
  refine fz (fun g b c => ∃ (E : ad1) (z : List (List Value)), [(5, (sv f))] = g ∧ (.row (sv f) 3 1 z.flatten) :: G = c ∧ zg E = some h ∧ RowR Ty.i64 b z E) ?_ ?_
  ·refine fc<|fa<|Em Z<|Er (wI (p0 - 1)) Z<|Ea Z<|fb<|fA<|?_
   refine f7 (fun Q g b c => ∃ (j : ad1) (t : List (List Value)) (e : Int), [(1, (sv k)), (5, (sv f)), (7, (Vi e))] = g ∧ U = b ∧ (.row (sv f) 3 1 t.flatten) :: G = c ∧ lp2 (uX p1) Q j e = some h ∧ RowR Ty.i64 b t j) BIG ?_ ?_
   ·exact Sd ⟨_, by exact R3, x, y, (wI (p0 - 1)), rfl, rfl, rfl, H, aa⟩
   rintro Q _ _ _ - ⟨j, t, e, rfl, rfl, rfl, H, d⟩
   obtain ⟨aC, aA, rfl, af, H⟩ := jL H
   unfold uX at H
   refine fc<|fc<|fa<|Em Z<|Ec Z<|fb<|?_
   refine fm rfl ?_ ?_
   ·intro p
    obtain ⟨p, H⟩ := It p H
    refine ft<|fc<|fA<|fc<|fa<|Em Z<|Em Z<|?_
    obtain ⟨u, ao, H⟩ := bnd H
    have am := ag.mono W
    refine ff rfl (Ek Tryz.call121 Z (CY p1 k e u ao _ _ am) ?_)
    rintro _ _ _ - ⟨rfl, rfl, rfl⟩
    refine Ea Z<|fb<|fc<|?_
    obtain ⟨l, M, H⟩ := bnd H
    obtain ⟨i, N, H⟩ := bnd H
    refine fq _ rfl (Ic Mb0 In0)<|Jm 0 Z<|Jm 1 Z<|?_
    obtain ⟨aE, I, ai⟩ := RowR.at d M
    obtain rfl := ai
    refine Jq 2 Z (gz (T := Ty.i64) Mb0 d I (fL M).1 rfl rfl rfl rfl rfl)<|Jl 3 (Vi l) Z (gQ (T := Ty.i64) Mb0 d I rfl rfl)<|Jm 4 Z<|Jm 5 Z<|?_
    obtain ⟨aF, J, aj⟩ := RowR.at d N
    obtain rfl := aj
    refine Jq 6 Z (gz (T := Ty.i64) Mb0 d J (fL N).1 rfl rfl rfl rfl rfl)<|Jl 7 (Vi i) Z (gQ (T := Ty.i64) Mb0 d J rfl rfl)<|Ja 8 Z<|Ja 9 Z<|Ad<|fa<|Em Z<|Em Z<|Em Z<|Em Z<|Em Z<|Em Z<|?_
    obtain ⟨aJ, O, H⟩ := bnd H
    obtain ⟨aG, C, ak⟩ := RowR.at d O
    obtain rfl := ak
    refine Eq Z (gz (T := Ty.i64) Mb0 d C (fL O).1 rfl rfl rfl rfl rfl) ?_
    refine ff rfl (gP (T := Ty.i64) (vs := [(Vi i)]) (r' := [(Vi i)]) (l' := (f8 j e i)) rfl rfl rfl rfl rfl .here d C rfl rfl rfl (RowR.set e d rfl) (fun w => ?_))
    have av := iO C (v := [(Vi i)])
    obtain ⟨aK, P, H⟩ := bnd H
    obtain ⟨aH, D, al⟩ := RowR.at w P
    obtain rfl := al
    refine Eq Z (gz (T := Ty.i64) Mb0 w D (fL P).1 rfl rfl rfl rfl rfl) ?_
    refine ff rfl (gP (T := Ty.i64) (vs := [(Vi l)]) (r' := [(Vi l)]) (l' := (f8 (f8 j e i) u l)) rfl rfl rfl rfl rfl .here w D rfl rfl rfl (RowR.set u w rfl) (fun ad => ?_))
    have aw := iO D (v := [(Vi l)])
    exact fb<|fa<|Em Z<|Er (wI (e - 1)) Z<|Ea Z<|fb<|Sd<|⟨_, by exact R3, _, Nat.lt_succ_self _, (f8 (f8 j e i) u l), ((t.set e.toNat [(Vi i)]).set u.toNat [(Vi l)]), (wI (e - 1)), rfl, rfl, rfl, (af ▸ H), ad⟩
   ·intro p
    obtain ⟨p, H⟩ := If p H
    exact f9<|Sd<|⟨_, by exact R1, j, t, rfl, rfl, H, d⟩
  rintro _ ar _ ax ⟨E, z, rfl, rfl, H, ac⟩
  unfold zg at H
  refine fc<|fa<|Em Z<|Ea Z<|fb<|fx<|?_
  obtain V := gn H
  subst h
  refine ⟨(.inl rfl), [(sv f)], ⟨(sv f), _, rfl, rfl, rfl⟩, ?_⟩
  exact Sd ⟨f, z, rfl, rfl, ac⟩
end Go.Hx
namespace Go.Hx
open Go Go.Proofs
set_option maxRecDepth 10000
set_option maxHeartbeats 1000000
theorem EP (p0 : Op) (b : SV) (a : SV) (d : ad1) (H : sr p0 = some d) (K : Kp) (G : List Ent) (i : Slr fW K (sv b) p0.cases) (j : Slr Ty.i64 K (sv a) p0.draws) :
  Fc Tryz.prog 78 #[(.agg (fh p0 b a).toArray)] K (G) (fun v h g => ∃ (f : SV) (e : List (List Value)), v = (sv f) ∧ (.row (sv f) 3 1 e.flatten) :: G = g ∧ RowR Ty.i64 h e d) := by
 refine fN Tryz.func78 rfl Tryz.ntmps78 Tryz.results78 rfl ?_
 unfold sr at H
 refine fc<|fa<|?_
 refine ff rfl (fR (cs := (fh p0 b a)) rfl rfl rfl (fun o => ?_))
 refine Ea Z<|fb<|fc<|fa<|EF 5 Z<|El (sv b) Z (Rb0 Z)<|Eq Z (gg (T := fW) i rfl rfl)<|EF 6 Z<|El (sv a) Z (Rb0 Z)<|?_
 obtain ⟨x10, l, H⟩ := bnd H
 refine ff rfl (Ek Tryz.call106 Z (ER (p0.cases.length : Int) p0.draws a x10 l _ _ j) ?_)
 rintro _ n _ q ⟨c, m, rfl, rfl, k⟩
 refine Ea Z<|fb<|fx<|?_
 obtain p := gn H
 subst d
 refine ⟨(.inl rfl), [(sv c)], ⟨(sv c), _, rfl, rfl, rfl⟩, ?_⟩
 exact Re1<|Sd<|⟨c, m, rfl, rfl, k⟩
end Go.Hx
namespace Go.Hx
open Go Go.Proofs
set_option maxRecDepth 10000
set_option maxHeartbeats 1000000
theorem CZ (p0 : f6) (b : SV) (c : SV) (p1 : Int) (p2 : Op) (a : SV) (d : SV) (e : Int) (H : rI p0 p1 p2 = some e) (K : Kp) (G : List Ent) (L : Slr fF K (sv b) p0.chans) (M : Slr fQ K (sv c) p0.waiting) (t : Slr fW K (sv a) p2.cases) (N : Slr Ty.i64 K (sv d) p2.draws) :
  Fc Tryz.prog 42 #[(.agg (fj p0 b c).toArray), (Vi p1), (.agg (fh p2 a d).toArray)] K (G) (fun v q f => v = (Vi e) ∧ G = f) := by
 refine fN Tryz.func42 rfl Tryz.ntmps42 Tryz.results42 rfl ?_
 unfold rI at H
 refine fc<|fa<|?_
 refine ff rfl (fR (cs := (fj p0 b c)) rfl rfl rfl (fun r => ?_))
 refine ff rfl (fR (cs := (fh p2 a d)) rfl rfl rfl (fun s => ?_))
 refine Ea Z<|fb<|fc<|fa<|EL 7 (fh p2 a d) Z (Rb0 Z)<|?_
 obtain ⟨D, V, H⟩ := bnd H
 refine ff rfl (Ek Tryz.call78 Z (EP p2 a d D V _ _ t N) ?_)
 rintro _ ad _ n ⟨B, W, rfl, rfl, Q⟩
 refine Ea Z<|fb<|?_
 refine fz (fun l q f => [] = l ∧ G = f ∧ zi = some e) ?_ ?_
 ·refine fc<|fa<|Ea Z<|fb<|fA<|?_
  refine f7 (fun n261 l q f => ∃ (i : Int), [(1, (Vi p1)), (3, (Vp r)), (5, (Vp s)), (7, (sv B)), (8, (Vi i))] = l ∧ (.blk s 51 (fh p2 a d)) :: (.blk r 60 (fj p0 b c)) :: (.row (sv B) 3 1 W.flatten) :: G = f ∧ lp1 (rH p1 D p2 p0) n261 i = some e) BIG ?_ ?_
  ·exact Pu2<|Pu2<|Sd<|⟨_, by exact R5, 0, rfl, rfl, H⟩
  rintro n261 _ aa _ j ⟨i, rfl, rfl, H⟩
  obtain ⟨ag, af, rfl, J, H⟩ := lx H
  unfold rH at H
  refine fc<|fc<|fa<|Em Z<|Em Z<|?_
  have h := Q.mono j
  refine Eq Z (ln (T := Ty.i64) Mb2 h rfl rfl rfl)<|Ec Z<|fb<|?_
  refine fm rfl ?_ ?_
  ·intro g
   obtain ⟨g, H⟩ := It g H
   refine ft<|fc<|fA<|fc<|?_
   obtain ⟨X, y, H⟩ := bnd H
   obtain ⟨C, z, H⟩ := bnd H
   obtain ⟨Y, U, H⟩ := bnd H
   refine fq _ rfl (Ic Mb0 (Ic Mb1 (Ic Mb2 In0)))<|JL 0 3 (fj p0 b c) Z (Rb1 Z)<|Jm 1 Z<|JF 2 5 Z<|Jl 3 (sv a) Z (Rb0 Z)<|Jm 4 Z<|Jm 5 Z<|?_
   obtain ⟨ah, u, O⟩ := RowR.at h y
   obtain rfl := O
   refine Jq 6 Z (gz (T := Ty.i64) Mb2 h u (fL y).1 rfl rfl rfl rfl rfl)<|Jl 7 (Vi X) Z (gQ (T := Ty.i64) Mb2 h u rfl rfl)<|?_
   have x := (t.mono n).mono j
   obtain ⟨_, rfl, I⟩ := Slr.at x z
   refine Jq 8 Z (Qi (T := fW) x z Z)<|JL 9 3 (fk C) Z (Rdc.k I rfl)<|?_
   refine Ao 10 Z ?_
   have R := (L.mono n).mono j
   have S := (M.mono n).mono j
   refine Ek Tryz.call43 Z (yb p0 b c p1 C Y U _ _ R S) ?_
   rintro _ ab _ F ⟨rfl, rfl⟩
   refine ⟨(Ic Mb0 (Ic Mb1 (Ic Mb2 In0))), ?_⟩
   refine Ad ?_
   refine fm rfl ?_ ?_
   ·intro m
    have H := ift m H
    refine fc<|fa<|Em Z<|Em Z<|?_
    obtain ⟨p, A, H⟩ := bnd H
    have o := h.mono F
    obtain ⟨ai, w, P⟩ := RowR.at o A
    obtain rfl := P
    refine Eq Z (gz (T := Ty.i64) Mb2 o w (fL A).1 rfl rfl rfl rfl rfl)<|El (Vi p) Z (gQ (T := Ty.i64) Mb2 o w rfl rfl)<|Ea Z<|fb<|fx<|?_
    obtain E := gn H
    subst e
    refine ⟨(.inl rfl), [(Vi p)], ⟨(Vi p), _, rfl, rfl, rfl⟩, ?_⟩
    exact Re0<|Re0<|Re0<|Sd<|⟨rfl, rfl⟩
   ·intro m
    have H := fX (btf m) H
    exact ft<|fa<|Em Z<|Er (wI (i + 1)) Z<|Ea Z<|fb<|Pu2<|Pu2<|Pu2<|Sd<|⟨_, by exact R5, _, Nat.lt_succ_self _, (wI (i + 1)), rfl, rfl, (J ▸ H)⟩
  ·intro g
   obtain ⟨g, H⟩ := If g H
   exact f9<|Re0<|Re0<|Re0<|Sd<|⟨[], trivial, rfl, rfl, H⟩
 rintro _ ac _ ae ⟨rfl, rfl, H⟩
 unfold zi at H
 refine fc<|fa<|Ea Z<|fb<|fx<|?_
 obtain E := gn H
 subst e
 refine ⟨(.inl rfl), [(Vi (-1))], ⟨(Vi (-1)), _, rfl, rfl, rfl⟩, ?_⟩
 exact Sd ⟨rfl, rfl⟩
theorem lR (p0 : f6) (d : SV) (c : SV) (p1 : Int) (p2 : Op) (aA : SV) (aB : SV) (p3 : Int) (p4 : Case) (h : f6) (u : ad8) (H : rJ p0 p1 p2 p3 p4 = some (h, u)) (K : Kp) (G : List Ent) (x : Slr fF K (sv d) p0.chans) (C : Slr fQ K (sv c) p0.waiting) (ch : Slr fW K (sv aA) p2.cases) (ci : Slr Ty.i64 K (sv aB) p2.draws) :
  Fc Tryz.prog 45 #[(.agg (fj p0 d c).toArray), (Vi p1), (.agg (fh p2 aA aB).toArray), (Vi p3), (.agg (fk p4).toArray)] K (G) (fun v i B => ∃ (bZ : SV) (b0 : SV) (a8 : SV), v = (.tuple #[(.agg (fj h bZ b0).toArray), (sv a8)]) ∧ (.tok 67 6 [(sv a8)]) :: G = B ∧ Slr fF i (sv bZ) h.chans ∧ Slr fQ i (sv b0) h.waiting ∧ Slr fP i (sv a8) u) := by
 refine fN Tryz.func45 rfl Tryz.ntmps45 Tryz.results45 rfl ?_
 unfold rJ at H
 refine fc<|fa<|?_
 refine ff rfl (fR (cs := (fj p0 d c)) rfl rfl rfl (fun V => ?_))
 refine ff rfl (fR (cs := (fh p2 aA aB)) rfl rfl rfl (fun ew => ?_))
 refine ff rfl (fR (cs := (fk p4)) rfl rfl rfl (fun W => ?_))
 refine ff rfl (fC (cs := (fj (f6.mk [] [] 0) fB fB)) rfl rfl rfl rfl (fun E => ?_))
 refine Ea Z<|fb<|fc<|fa<|EF 0 Z<|El (sv d) Z (Rb3 Z)<|EF 1 Z<|El (Vi p4.channel) Z (Rb1 Z)<|?_
 obtain ⟨b, bQ, H⟩ := bnd H
 obtain ⟨eE, cj, cd⟩ := Slr.at x bQ
 obtain ⟨y, rfl, aG⟩ := cj
 refine Eq Z (Qi (T := fF) x bQ Z)<|EL 3 (fy b y) Z (Rdc.k cd rfl)<|?_
 refine ff rfl (fC (cs := (fy (fJ.mk 0 [] false) fB)) rfl rfl rfl rfl (fun X => ?_))
 refine ff rfl (Sa (fy b y) Z .here Z ?_)
 refine fb<|fc<|fa<|EL 7 (fh p2 aA aB) Z (Rb3 Z)<|Em Z<|?_
 obtain ⟨a, dL, H⟩ := bnd H
 refine ff rfl (Ek Tryz.call75 Z (nA p2 aA aB p3 a dL _ _ ch ci) ?_)
 rintro _ _ _ - ⟨rfl, rfl, rfl⟩
 refine Ea Z<|fb<|fc<|fa<|EL 3 (fj p0 d c) Z (Rb4 Z)<|Em Z<|EL 3 (fk p4) Z (Rb2 Z)<|?_
 obtain ⟨U, dM, H⟩ := bnd H
 refine ff rfl (Ek Tryz.call80 Z (ya p0 d c p1 p4 U dM _ _ x C) ?_)
 rintro _ w _ g ⟨rfl, rfl⟩
 refine Ea Z<|fb<|fc<|fc<|fa<|EF 0 Z<|El (.bool p4.send) Z (Rb2 Z)<|fb<|?_
 refine fm rfl ?_ ?_
 ·intro aL
  have H := ift aL H
  refine fc<|fc<|fa<|EF 2 Z<|El (.bool b.closed) Z (Rb0 Z)<|fb<|?_
  refine fm rfl ?_ ?_
  ·intro aM
   have H := ift aM H
   refine fc<|fa<|EL 3 (fj p0 d c) Z (Rb4 Z)<|Em Z<|Em Z<|Eq Z (fH (cs := (fe (Result.mk 5 a 0 false 0))) rfl rfl rfl rfl rfl rfl)<|Eq Z (fH (cs := (fK (Done.mk p1 (Result.mk 5 a 0 false 0)))) rfl rfl rfl rfl rfl rfl)<|?_
   have bu : RowR fP w [(fK (Done.mk p1 (Result.mk 5 a 0 false 0)))] [(Done.mk p1 (Result.mk 5 a 0 false 0))] := RowR.cons rfl (RowR.nil)
   refine ff rfl (gk (T := fP) (rows := [(fK (Done.mk p1 (Result.mk 5 a 0 false 0)))]) (l := [(Done.mk p1 (Result.mk 5 a 0 false 0))]) rfl rfl rfl bu rfl rfl rfl rfl rfl rfl rfl rfl (fun a1 => ?_))
   refine ff rfl (Sa (fj p0 d c) Z (.there (.there .here)) Z ?_)
   refine Ea Z<|fb<|fx<|?_
   obtain ⟨N, O⟩ := hY H
   subst h u
   refine ⟨(.inl rfl), [(.agg (fj p0 d c).toArray), (sv a1)], ⟨(.agg (fj p0 d c).toArray), _, rfl, ⟨_, 3, (fj p0 d c), rfl, rfl, rfl, rfl, ⟨rfl, Rb2 Z⟩, rfl⟩, ⟨(sv a1), _, rfl, rfl, rfl⟩⟩, ?_⟩
   refine Shift.settle (T := fP) .here bu rfl ?_
   intro ed bi cN
   refine Re1<|Re1<|Re1<|Re1<|Re1<|?_
   have cO := (x.mono g).mono bi
   have cP := (C.mono g).mono bi
   exact Sd ⟨d, c, a1, rfl, rfl, cO, cP, cN⟩
  ·intro aM
   have H := fX (btf aM) H
   refine ft<|fc<|fa<|Em Z<|Em Z<|Eq Z (fH (cs := (fe (Result.mk 1 a 0 false 0))) rfl rfl rfl rfl rfl rfl)<|Eq Z (fH (cs := (fK (Done.mk p1 (Result.mk 1 a 0 false 0)))) rfl rfl rfl rfl rfl rfl)<|?_
   have aP : RowR fP w [(fK (Done.mk p1 (Result.mk 1 a 0 false 0)))] [(Done.mk p1 (Result.mk 1 a 0 false 0))] := RowR.cons rfl (RowR.nil)
   refine ff rfl (gk (T := fP) (rows := [(fK (Done.mk p1 (Result.mk 1 a 0 false 0)))]) (l := [(Done.mk p1 (Result.mk 1 a 0 false 0))]) rfl rfl rfl aP rfl rfl rfl rfl rfl rfl rfl rfl (fun af => ?_))
   refine Ea Z<|fb<|fc<|fc<|fa<|Em Z<|Ec Z<|fb<|?_
   refine fm rfl ?_ ?_
   ·intro ap
    obtain ⟨ap, H⟩ := It ap H
    refine fc<|fa<|EF 1 Z<|El (sv c) Z (Rb5 Z)<|Em Z<|?_
    obtain ⟨L, bR, H⟩ := bnd H
    have aR := C.mono g
    obtain ⟨eF, ck, ce⟩ := Slr.at aR bR
    obtain ⟨ag, ah, rfl, cQ, cR⟩ := ck
    refine Eq Z (Qi (T := fQ) aR bR Z)<|EL 8 (gw L ag ah) Z (Rdc.k ce rfl)<|?_
    refine ff rfl (fC (cs := (gw (gJ.mk 0 (Op.mk 0 0 0 0 0 [] [])) fB fB)) rfl rfl rfl rfl (fun ex => ?_))
    refine ff rfl (Sa (gw L ag ah) Z .here Z ?_)
    refine fb<|fc<|?_
    obtain ⟨an, dN, H⟩ := bnd H
    obtain ⟨b4, dO, H⟩ := bnd H
    obtain ⟨a9, dP, H⟩ := bnd H
    obtain ⟨d2, dQ, H⟩ := bnd H
    refine fq _ rfl (Ic Mb0 (Ic Mb2 (Ic Mb4 (Ic Mb5 (Ic Mb6 In0)))))<|JL 0 3 (fj p0 d c) Z (Rb4 Z)<|Jm 1 Z<|Jm 3 Z<|JF 4 0 Z<|Jl 5 (Vi L.thread) Z (Rb0 Z)<|JF 6 1 Z<|JL 7 7 (fh L.op ag ah) Z (Rb0 Z)<|JF 8 1 Z<|JL 9 7 (fh L.op ag ah) Z (Rb0 Z)<|JF 10 1 Z<|Jl 11 (Vi p4.channel) Z (Rb2 Z)<|JF 14 2 Z<|Jl 15 (.int .u64 p4.value) Z (Rb2 Z)<|?_
    refine Ao 2 Z ?_
    have cS := x.mono g
    refine Ek Tryz.call76 Z (xf p0 d c U an dN _ _ cS aR) ?_
    rintro _ ee _ aN ⟨ai, aj, rfl, rfl, cT, cU⟩
    refine ⟨(Ic Mb1 (Ic Mb3 (Ic Mb5 (Ic Mb6 (Ic Mb7 In0))))), ?_⟩
    refine Ao 12 Z ?_
    have bH := cQ.mono aN
    have bI := cR.mono aN
    refine Ek Tryz.call74 Z (qs L.op ag ah p4.channel false b4 dO _ _ bH bI) ?_
    rintro _ ef _ aw ⟨rfl, rfl⟩
    refine ⟨(Ic Mb1 (Ic Mb3 (Ic Mb5 (Ic Mb6 (Ic Mb7 In0))))), ?_⟩
    refine Ao 13 Z ?_
    have cV := bH.mono aw
    have cW := bI.mono aw
    refine Ek Tryz.call75 Z (nA L.op ag ah b4 a9 dP _ _ cV cW) ?_
    rintro _ _ _ - ⟨rfl, rfl, rfl⟩
    refine ⟨(Ic Mb1 (Ic Mb3 (Ic Mb5 (Ic Mb6 (Ic Mb7 In0))))), ?_⟩
    refine Jq 16 Z (fH (cs := (fe (Result.mk 2 a9 p4.value true 0))) rfl rfl rfl rfl rfl rfl) ?_
    refine Ao 17 Z ?_
    have cY := (aP.mono aN).mono aw
    refine OpW.shift (Shift.settle (T := fP) (.there (.there .here)) cY rfl (fun eg bj cX => Sd ?_))
    refine Ek Tryz.call77 Z (qu [(Done.mk p1 (Result.mk 1 a 0 false 0))] af L.thread (Result.mk 2 a9 p4.value true 0) d2 dQ _ _ cX) ?_
    rintro _ eh _ bk ⟨a2, rfl, rfl, cZ⟩
    refine ⟨(Ic Mb2 (Ic Mb4 (Ic Mb6 (Ic Mb7 (Ic Mb8 In0))))), ?_⟩
    refine Ao 18 Z ?_
    refine jU (vs := (fj an ai aj)) (all' := (fj an ai aj)) rfl rfl rfl rfl rfl (.there (.there (.there (.there (.there .here))))) rfl rfl rfl ⟨(Ic Mb2 (Ic Mb4 (Ic Mb6 (Ic Mb7 (Ic Mb8 In0))))), ?_⟩
    refine Ja 19 Z<|Ad<|fx<|?_
    obtain ⟨N, O⟩ := hY H
    subst h u
    refine ⟨(.inl rfl), [(.agg (fj an ai aj).toArray), (sv a2)], ⟨(.agg (fj an ai aj).toArray), _, rfl, ⟨_, 3, (fj an ai aj), rfl, rfl, rfl, rfl, ⟨rfl, Rb5 Z⟩, rfl⟩, ⟨(sv a2), _, rfl, rfl, rfl⟩⟩, ?_⟩
    refine Re1<|Re1<|Re1<|Re1<|Re1<|Re1<|Re1<|Re1<|?_
    have c0 := ((cT.mono aw).mono bj).mono bk
    have c1 := ((cU.mono aw).mono bj).mono bk
    exact Sd ⟨ai, aj, a2, rfl, rfl, c0, c1, cZ⟩
   ·intro ap
    obtain ⟨ap, H⟩ := If ap H
    refine ft ?_
    refine fz (fun M i B => ∃ (ak : SV) (ae : ad1), [(5, (Vp V)), (9, (Vp W)), (10, (Vp E)), (12, (Vp X)), (15, (sv af))] = M ∧ (.blk X 104 (fy (fJ.mk b.capacity ae b.closed) ak)) :: (.blk E 60 (fj (f6.mk [] [] 0) fB fB)) :: (.blk W 108 (fk p4)) :: (.blk V 60 (fj p0 d c)) :: (.tok 36 1 [(sv ak)]) :: (.row (sv af) 67 6 [(fK (Done.mk p1 (Result.mk 1 a 0 false 0)))].flatten) :: G = B ∧ vN p1 a b p4 p0 ae = some (h, u) ∧ Slr Ty.u64 i (sv ak) ae) ?_ ?_
    ·obtain ⟨eT, aU, H⟩ := bnd H
     obtain ⟨ao, aV, H⟩ := bnd H
     refine fq _ rfl (Ic Mb0 (Ic Mb2 (Ic Mb3 (Ic Mb4 (Ic Mb5 In0)))))<|JF 0 1 Z<|JF 3 2 Z<|Jl 4 (.int .u64 p4.value) Z (Rb2 Z)<|?_
     refine gY 1 5 (by kernel_rfl) ?_ ?_
     ·refine id (Jyq Z (gv (v := (sv y)) rfl rfl rfl (Rb1 Z)) ⟨(Ic Mb0 (Ic Mb2 (Ic Mb3 (Ic Mb4 (Ic Mb5 In0))))), ?_⟩)
      refine gY 2 5 (by kernel_rfl) ?_ ?_
      ·refine id (Jy Z ?_)
       refine OpW.shift (Shift.nilTok1 36 1 (Sd ?_))
       have c3 := aG.mono g
       refine ga (T := Ty.u64) (bytes := 8) (q := 0) rfl rfl rfl (Slr.nil Ty.u64 _) Mb0 rfl (SrcT.sl c3) aU rfl rfl rfl rfl rfl rfl rfl rfl (fun eM b7 eA c4 => ⟨_, .here, ⟨(Ic Mb1 (Ic Mb3 (Ic Mb4 (Ic Mb5 (Ic Mb6 In0))))), ?_⟩⟩)
       refine Ao 5 Z ?_
       have bv : RowR Ty.u64 b7 [[(.int .u64 p4.value)]] [p4.value] := RowR.cons rfl (RowR.nil)
       refine gk (T := Ty.u64) (rows := [[(.int .u64 p4.value)]]) (l := [p4.value]) rfl rfl rfl bv rfl rfl rfl rfl rfl rfl rfl rfl (fun eN => ⟨(Ic Mb2 (Ic Mb4 (Ic Mb5 (Ic Mb6 (Ic Mb7 In0))))), ?_⟩)
       refine Ao 6 Z ?_
       refine ga (T := Ty.u64) (bytes := 8) (q := 0) rfl rfl rfl c4 Mb1 rfl (SrcT.row Mb0 bv rfl) aV rfl rfl rfl rfl rfl rfl rfl rfl (fun a3 ei eB c5 => ⟨_, (.there .here), ⟨(Ic Mb2 (Ic Mb4 (Ic Mb5 (Ic Mb6 (Ic Mb7 In0))))), ?_⟩⟩)
       refine Aw.shift (Re0 (Sd ⟨(Ic Mb1 (Ic Mb3 (Ic Mb4 (Ic Mb5 (Ic Mb6 In0))))), ?_⟩))
       refine JF 7 1 Z ?_
       refine Ao 8 Z ?_
       refine So [(sv a3)] (fy (fJ.mk b.capacity ao b.closed) a3) Z (.there (.there .here)) Z ⟨(Ic Mb1 (Ic Mb3 (Ic Mb4 (Ic Mb5 (Ic Mb6 In0))))), ?_⟩
       exact Ad<|Pu1<|Pu1<|Pu6<|Pu5<|Pu5<|Pu5<|Re6<|Sd<|⟨_, by exact R5, a3, ao, rfl, rfl, H, c5⟩
      ·refine id (Jy Z ?_)
       have bw : RowR Ty.u64 w [[(.int .u64 p4.value)]] [p4.value] := RowR.cons rfl (RowR.nil)
       refine gk (T := Ty.u64) (rows := [[(.int .u64 p4.value)]]) (l := [p4.value]) rfl rfl rfl bw rfl rfl rfl rfl rfl rfl rfl rfl (fun eO => ⟨(Ic Mb1 (Ic Mb3 (Ic Mb4 (Ic Mb5 (Ic Mb6 In0))))), ?_⟩)
       refine Ao 2 Z ?_
       refine OpW.shift (Shift.nilTok1 36 1 (Sd ?_))
       have c6 := aG.mono g
       refine ga (T := Ty.u64) (bytes := 8) (q := 0) rfl rfl rfl (Slr.nil Ty.u64 _) Mb0 rfl (SrcT.sl c6) aU rfl rfl rfl rfl rfl rfl rfl rfl (fun eP ej b8 c7 => ⟨_, .here, ⟨(Ic Mb2 (Ic Mb4 (Ic Mb5 (Ic Mb6 (Ic Mb7 In0))))), ?_⟩⟩)
       refine Ao 6 Z ?_
       have c8 := bw.mono b8
       refine ga (T := Ty.u64) (bytes := 8) (q := 0) rfl rfl rfl c7 Mb0 rfl (SrcT.row Mb1 c8 rfl) aV rfl rfl rfl rfl rfl rfl rfl rfl (fun a4 ek eC c9 => ⟨_, .here, ⟨(Ic Mb2 (Ic Mb4 (Ic Mb5 (Ic Mb6 (Ic Mb7 In0))))), ?_⟩⟩)
       refine Aw.shift (Re1 (Sd ⟨(Ic Mb1 (Ic Mb3 (Ic Mb4 (Ic Mb5 (Ic Mb6 In0))))), ?_⟩))
       refine JF 7 1 Z ?_
       refine Ao 8 Z ?_
       refine So [(sv a4)] (fy (fJ.mk b.capacity ao b.closed) a4) Z (.there (.there .here)) Z ⟨(Ic Mb1 (Ic Mb3 (Ic Mb4 (Ic Mb5 (Ic Mb6 In0))))), ?_⟩
       exact Ad<|Pu1<|Pu1<|Pu6<|Pu5<|Pu5<|Pu5<|Re6<|Sd<|⟨_, by exact R5, a4, ao, rfl, rfl, H, c9⟩
     ·refine id (Jy Z ?_)
      have bx : RowR Ty.u64 w [[(.int .u64 p4.value)]] [p4.value] := RowR.cons rfl (RowR.nil)
      refine gk (T := Ty.u64) (rows := [[(.int .u64 p4.value)]]) (l := [p4.value]) rfl rfl rfl bx rfl rfl rfl rfl rfl rfl rfl rfl (fun eQ => ⟨(Ic Mb1 (Ic Mb3 (Ic Mb4 (Ic Mb5 (Ic Mb6 In0))))), ?_⟩)
      refine gB 1 (by kernel_rfl) (Jyq Z (gv (v := (sv y)) rfl rfl rfl (Rb2 Z)) ⟨(Ic Mb1 (Ic Mb3 (Ic Mb4 (Ic Mb5 (Ic Mb6 In0))))), ?_⟩)
      refine Ao 2 Z ?_
      refine OpW.shift (Shift.nilTok1 36 1 (Sd ?_))
      have da := aG.mono g
      refine ga (T := Ty.u64) (bytes := 8) (q := 0) rfl rfl rfl (Slr.nil Ty.u64 _) Mb0 rfl (SrcT.sl da) aU rfl rfl rfl rfl rfl rfl rfl rfl (fun eR el b9 db => ⟨_, .here, ⟨(Ic Mb2 (Ic Mb4 (Ic Mb5 (Ic Mb6 (Ic Mb7 In0))))), ?_⟩⟩)
      refine Ao 6 Z ?_
      have dc := bx.mono b9
      refine ga (T := Ty.u64) (bytes := 8) (q := 0) rfl rfl rfl db Mb0 rfl (SrcT.row Mb1 dc rfl) aV rfl rfl rfl rfl rfl rfl rfl rfl (fun a5 em eD dd => ⟨_, .here, ⟨(Ic Mb2 (Ic Mb4 (Ic Mb5 (Ic Mb6 (Ic Mb7 In0))))), ?_⟩⟩)
      refine Aw.shift (Re1 (Sd ⟨(Ic Mb1 (Ic Mb3 (Ic Mb4 (Ic Mb5 (Ic Mb6 In0))))), ?_⟩))
      refine JF 7 1 Z ?_
      refine Ao 8 Z ?_
      refine So [(sv a5)] (fy (fJ.mk b.capacity ao b.closed) a5) Z (.there (.there .here)) Z ⟨(Ic Mb1 (Ic Mb3 (Ic Mb4 (Ic Mb5 (Ic Mb6 In0))))), ?_⟩
      exact Ad<|Pu1<|Pu1<|Pu6<|Pu5<|Pu5<|Pu5<|Re6<|Sd<|⟨_, by exact R5, a5, ao, rfl, rfl, H, dd⟩
    rintro _ en _ aO ⟨ak, ae, rfl, rfl, H, c2⟩
    unfold vN at H
    refine fc<|fa<|EL 3 (fj p0 d c) Z (Rb3 Z)<|EF 1 Z<|El (Vi p4.channel) Z (Rb2 Z)<|EL 3 (fy (fJ.mk b.capacity ae b.closed) ak) Z (Rb0 Z)<|?_
    obtain ⟨aC, dR, H⟩ := bnd H
    have de := (x.mono g).mono aO
    have df := (C.mono g).mono aO
    refine ff rfl (Ek Tryz.call73 Z (nz p0 d c p4.channel (fJ.mk b.capacity ae b.closed) ak aC dR _ _ de df c2) ?_)
    rintro _ _ _ - ⟨ay, eI, az, rfl, rfl, rfl, dg, dh⟩
    refine Em Z ?_
    refine ff rfl (Sa (fj aC ay az) Z (.there (.there .here)) Z ?_)
    refine Ea Z<|fb<|fx<|?_
    obtain ⟨N, O⟩ := hY H
    subst h u
    refine ⟨(.inl rfl), [(.agg (fj aC ay az).toArray), (sv af)], ⟨(.agg (fj aC ay az).toArray), _, rfl, ⟨_, 3, (fj aC ay az), rfl, rfl, rfl, rfl, ⟨rfl, Rb2 Z⟩, rfl⟩, ⟨(sv af), _, rfl, rfl, rfl⟩⟩, ?_⟩
    refine Shift.settle (T := fF) .here dg rfl ?_
    intro eo bl di
    have dk := (aP.mono aO).mono bl
    refine Shift.settle (T := fP) (.there (.there (.there (.there (.there (.there .here)))))) dk rfl ?_
    intro ep bm dj
    refine Pu6<|Re1<|Re1<|Re1<|Re1<|Re1<|Re1<|?_
    have dl := di.mono bm
    have dm := (dh.mono bl).mono bm
    exact Sd ⟨ay, az, af, rfl, rfl, dl, dm, dj⟩
 ·intro aL
  have H := fX (btf aL) H
  refine ft<|fc<|fa<|Em Z<|Eq Z (fH (cs := (fe (Result.mk 2 a 0 false 0))) rfl rfl rfl rfl rfl rfl)<|?_
  refine ff rfl (fC (cs := (fe (Result.mk 0 0 0 false 0))) rfl rfl rfl rfl (fun aF => ?_))
  refine ff rfl (Sa (fe (Result.mk 2 a 0 false 0)) Z .here Z ?_)
  refine fb ?_
  refine fz (fun M i B => ∃ (f : Int) (e : Bool) (J : SV) (I : ad1), [(1, (Vi p1)), (5, (Vp V)), (9, (Vp W)), (10, (Vp E)), (12, (Vp X)), (14, (Vi U)), (17, (Vp aF))] = M ∧ w = i ∧ (.blk aF 38 (fe (Result.mk 2 a f e 0))) :: (.blk X 104 (fy (fJ.mk b.capacity I b.closed) J)) :: (.blk E 60 (fj (f6.mk [] [] 0) fB fB)) :: (.blk W 108 (fk p4)) :: (.blk V 60 (fj p0 d c)) :: G = B ∧ sM p1 U a b p4 p0 f e I = some (h, u) ∧ Slr Ty.u64 i (sv J) I) ?_ ?_
  ·refine fc<|fa<|EF 1 Z<|El (sv y) Z (Rb1 Z)<|?_
   have ab := aG.mono g
   refine Eq Z (gg (T := Ty.u64) ab rfl rfl)<|Ec Z<|fb<|?_
   refine fm rfl ?_ ?_
   ·intro aq
    obtain ⟨aq, H⟩ := It aq H
    refine fc<|fa<|EF 1 Z<|El (sv y) Z (Rb1 Z)<|?_
    obtain ⟨aD, bS, H⟩ := bnd H
    obtain ⟨_, rfl, cf⟩ := Slr.at ab bS
    refine Eq Z (Qi (T := Ty.u64) ab bS Z)<|El (.int .u64 aD) Z (Rdc.k cf rfl)<|EF 2 Z<|?_
    refine ff rfl (So [(.int .u64 aD)] (fe (Result.mk 2 a aD false 0)) Z .here Z ?_)
    refine EF 3 Z ?_
    refine ff rfl (So [(.bool true)] (fe (Result.mk 2 a aD true 0)) Z .here Z ?_)
    refine fb<|fa<|EF 1 Z<|El (sv y) Z (Rb1 Z)<|?_
    obtain ⟨b5, bT, H⟩ := bnd H
    have dn := Slr.cutL ab bT
    refine Eq Z (lP (T := Ty.u64) ab bT rfl rfl rfl rfl rfl)<|EF 1 Z<|?_
    refine ff rfl (So [(sv (jz y 1 ((1 : Int).toNat) b.buffer.length))] (fy (fJ.mk b.capacity b5 b.closed) (jz y 1 ((1 : Int).toNat) b.buffer.length)) Z (.there .here) Z ?_)
    exact fb<|Pu5<|Pu4<|Pu4<|Pu4<|Pu4<|Re5<|Sd<|⟨_, by exact R7, aD, true, (jz y 1 ((1 : Int).toNat) b.buffer.length), b5, rfl, rfl, rfl, H, dn⟩
   ·intro aq
    obtain ⟨aq, H⟩ := If aq H
    refine fc<|fa<|Em Z<|Ec Z<|fb<|?_
    refine fm rfl ?_ ?_
    ·intro ar
     obtain ⟨ar, H⟩ := It ar H
     refine fc<|fq _ rfl (Ic Mb0 (Ic Mb1 (Ic Mb3 (Ic Mb4 (Ic Mb5 In0)))))<|JL 0 3 (fj p0 d c) Z (Rb4 Z)<|Jm 1 Z<|JL 2 5 (fe (Result.mk 2 a 0 false 0)) Z (Rb0 Z)<|Jq 3 Z (fH (cs := (fK (Done.mk p1 (Result.mk 2 a 0 false 0)))) rfl rfl rfl rfl rfl rfl)<|?_
     refine gY 4 5 (by kernel_rfl) ?_ ?_
     ·refine id (Jy Z ?_)
      have bz : RowR fP w [(fK (Done.mk p1 (Result.mk 2 a 0 false 0)))] [(Done.mk p1 (Result.mk 2 a 0 false 0))] := RowR.cons rfl (RowR.nil)
      refine gk (T := fP) (rows := [(fK (Done.mk p1 (Result.mk 2 a 0 false 0)))]) (l := [(Done.mk p1 (Result.mk 2 a 0 false 0))]) rfl rfl rfl bz rfl rfl rfl rfl rfl rfl rfl rfl (fun a6 => ⟨(Ic Mb1 (Ic Mb2 (Ic Mb4 (Ic Mb5 (Ic Mb6 In0))))), ?_⟩)
      refine Ao 5 Z ?_
      refine Sa (fj p0 d c) Z (.there (.there (.there .here))) Z ⟨(Ic Mb1 (Ic Mb2 (Ic Mb4 (Ic Mb5 (Ic Mb6 In0))))), ?_⟩
      refine Ja 6 Z<|Ad<|fx<|?_
      obtain ⟨N, O⟩ := hY H
      subst h u
      refine ⟨(.inl rfl), [(.agg (fj p0 d c).toArray), (sv a6)], ⟨(.agg (fj p0 d c).toArray), _, rfl, ⟨_, 3, (fj p0 d c), rfl, rfl, rfl, rfl, ⟨rfl, Rb3 Z⟩, rfl⟩, ⟨(sv a6), _, rfl, rfl, rfl⟩⟩, ?_⟩
      refine Shift.settle (T := fP) .here bz rfl ?_
      intro er bn dp
      refine Re1<|Re1<|Re1<|Re1<|Re1<|Re1<|?_
      have dq := (x.mono g).mono bn
      have dr := (C.mono g).mono bn
      exact Sd ⟨d, c, a6, rfl, rfl, dq, dr, dp⟩
     ·refine id (Jy Z ?_)
      refine Sa (fj p0 d c) Z (.there (.there .here)) Z ⟨(Ic Mb0 (Ic Mb1 (Ic Mb3 (Ic Mb4 (Ic Mb5 In0))))), ?_⟩
      refine Ao 4 Z ?_
      have bA : RowR fP w [(fK (Done.mk p1 (Result.mk 2 a 0 false 0)))] [(Done.mk p1 (Result.mk 2 a 0 false 0))] := RowR.cons rfl (RowR.nil)
      refine gk (T := fP) (rows := [(fK (Done.mk p1 (Result.mk 2 a 0 false 0)))]) (l := [(Done.mk p1 (Result.mk 2 a 0 false 0))]) rfl rfl rfl bA rfl rfl rfl rfl rfl rfl rfl rfl (fun a7 => ⟨(Ic Mb1 (Ic Mb2 (Ic Mb4 (Ic Mb5 (Ic Mb6 In0))))), ?_⟩)
      refine Ja 6 Z<|Ad<|fx<|?_
      obtain ⟨N, O⟩ := hY H
      subst h u
      refine ⟨(.inl rfl), [(.agg (fj p0 d c).toArray), (sv a7)], ⟨(.agg (fj p0 d c).toArray), _, rfl, ⟨_, 3, (fj p0 d c), rfl, rfl, rfl, rfl, ⟨rfl, Rb3 Z⟩, rfl⟩, ⟨(sv a7), _, rfl, rfl, rfl⟩⟩, ?_⟩
      refine Shift.settle (T := fP) .here bA rfl ?_
      intro es bo ds
      refine Re1<|Re1<|Re1<|Re1<|Re1<|Re1<|?_
      have dt := (x.mono g).mono bo
      have du := (C.mono g).mono bo
      exact Sd ⟨d, c, a7, rfl, rfl, dt, du, ds⟩
    ·intro ar
     obtain ⟨ar, H⟩ := If ar H
     exact ft<|Pu5<|Pu4<|Pu4<|Pu4<|Pu4<|Re5<|Sd<|⟨_, by exact R7, 0, false, y, b.buffer, rfl, rfl, rfl, H, ab⟩
  rintro _ _ _ - ⟨f, e, J, I, rfl, rfl, rfl, H, aH⟩
  unfold sM at H
  refine fc<|fc<|fa<|Em Z<|Ec Z<|fb<|?_
  refine fm rfl ?_ ?_
  ·intro au
   obtain ⟨au, H⟩ := It au H
   refine fz (fun M i B => ∃ (al : SV) (aW : List (List Value)) (R : SV) (P : ad0) (aX : List (List Value)) (S : SV) (Q : af1) (ac : Int), [(10, (Vp E)), (11, (sv al))] = M ∧ w = i ∧ (.blk E 60 (fj (f6.mk P Q ac) R S)) :: (.row (sv al) 67 6 aW.flatten) :: (.row (sv R) 104 3 aX.flatten) :: G = B ∧ zj p1 a f e P Q ac = some (h, u) ∧ RowR fP i aW [(Done.mk p1 (Result.mk 2 a f e 0))] ∧ RowR fF i aX P ∧ Slr fQ i (sv S) Q) ?_ ?_
   ·obtain ⟨s, bU, H⟩ := bnd H
    refine fq _ rfl (Ic Mb0 (Ic Mb1 (Ic Mb3 (Ic Mb4 In0))))<|JL 0 3 (fj p0 d c) Z (Rb3 Z)<|JF 1 1 Z<|Jl 2 (Vi p4.channel) Z (Rb2 Z)<|JL 3 3 (fy (fJ.mk b.capacity I b.closed) J) Z (Rb1 Z)<|Jm 5 Z<|JL 6 5 (fe (Result.mk 2 a f e 0)) Z (Rb0 Z)<|Jq 7 Z (fH (cs := (fK (Done.mk p1 (Result.mk 2 a f e 0)))) rfl rfl rfl rfl rfl rfl)<|?_
    refine gY 4 8 (by kernel_rfl) ?_ ?_
    ·refine id (Jy Z ?_)
     have dw := x.mono g
     have dx := C.mono g
     refine Ek Tryz.call73 Z (nz p0 d c p4.channel (fJ.mk b.capacity I b.closed) J s bU _ _ dw dx aH) ?_
     rintro _ _ _ - ⟨aI, bW, aJ, rfl, rfl, rfl, bJ, bK⟩
     refine ⟨(Ic Mb1 (Ic Mb2 (Ic Mb4 (Ic Mb5 In0)))), ?_⟩
     refine gY 8 9 (by kernel_rfl) ?_ ?_
     ·refine id (Jy Z ?_)
      have bB : RowR fP w [(fK (Done.mk p1 (Result.mk 2 a f e 0)))] [(Done.mk p1 (Result.mk 2 a f e 0))] := RowR.cons rfl (RowR.nil)
      refine gk (T := fP) (rows := [(fK (Done.mk p1 (Result.mk 2 a f e 0)))]) (l := [(Done.mk p1 (Result.mk 2 a f e 0))]) rfl rfl rfl bB rfl rfl rfl rfl rfl rfl rfl rfl (fun dZ => ⟨(Ic Mb2 (Ic Mb3 (Ic Mb5 (Ic Mb6 In0)))), ?_⟩)
      refine Ao 9 Z ?_
      refine Sa (fj s aI aJ) Z (.there (.there (.there (.there .here)))) Z ⟨(Ic Mb2 (Ic Mb3 (Ic Mb5 (Ic Mb6 In0)))), ?_⟩
      exact Ja 10 Z<|Ad<|Pu1<|Pu1<|Pu4<|Re3<|Re3<|Re3<|Re3<|Sd<|⟨_, by exact R2, dZ, [(fK (Done.mk p1 (Result.mk 2 a f e 0)))], aI, s.chans, bW, aJ, s.waiting, s.tick, rfl, rfl, rfl, H, bB, bJ, bK⟩
     ·refine id (Jy Z ?_)
      refine Sa (fj s aI aJ) Z (.there (.there (.there .here))) Z ⟨(Ic Mb1 (Ic Mb2 (Ic Mb4 (Ic Mb5 In0)))), ?_⟩
      refine Ao 8 Z ?_
      have bC : RowR fP w [(fK (Done.mk p1 (Result.mk 2 a f e 0)))] [(Done.mk p1 (Result.mk 2 a f e 0))] := RowR.cons rfl (RowR.nil)
      refine gk (T := fP) (rows := [(fK (Done.mk p1 (Result.mk 2 a f e 0)))]) (l := [(Done.mk p1 (Result.mk 2 a f e 0))]) rfl rfl rfl bC rfl rfl rfl rfl rfl rfl rfl rfl (fun d0 => ⟨(Ic Mb2 (Ic Mb3 (Ic Mb5 (Ic Mb6 In0)))), ?_⟩)
      exact Ja 10 Z<|Ad<|Pu1<|Pu1<|Pu4<|Re3<|Re3<|Re3<|Re3<|Sd<|⟨_, by exact R2, d0, [(fK (Done.mk p1 (Result.mk 2 a f e 0)))], aI, s.chans, bW, aJ, s.waiting, s.tick, rfl, rfl, rfl, H, bC, bJ, bK⟩
    ·refine id (Jy Z ?_)
     have bD : RowR fP w [(fK (Done.mk p1 (Result.mk 2 a f e 0)))] [(Done.mk p1 (Result.mk 2 a f e 0))] := RowR.cons rfl (RowR.nil)
     refine gk (T := fP) (rows := [(fK (Done.mk p1 (Result.mk 2 a f e 0)))]) (l := [(Done.mk p1 (Result.mk 2 a f e 0))]) rfl rfl rfl bD rfl rfl rfl rfl rfl rfl rfl rfl (fun d1 => ⟨(Ic Mb1 (Ic Mb2 (Ic Mb4 (Ic Mb5 In0)))), ?_⟩)
     refine Ao 4 Z ?_
     have dy := x.mono g
     have dz := C.mono g
     refine Ek Tryz.call73 Z (nz p0 d c p4.channel (fJ.mk b.capacity I b.closed) J s bU _ _ dy dz aH) ?_
     rintro _ _ _ - ⟨bX, dU, bY, rfl, rfl, rfl, dA, dB⟩
     refine ⟨(Ic Mb2 (Ic Mb3 (Ic Mb5 (Ic Mb6 In0)))), ?_⟩
     refine Ao 9 Z ?_
     refine Sa (fj s bX bY) Z (.there (.there (.there (.there .here)))) Z ⟨(Ic Mb2 (Ic Mb3 (Ic Mb5 (Ic Mb6 In0)))), ?_⟩
     exact Ja 10 Z<|Ad<|Pu1<|Pu4<|Re3<|Re3<|Re3<|Re3<|Sd<|⟨_, by exact R2, d1, [(fK (Done.mk p1 (Result.mk 2 a f e 0)))], bX, s.chans, dU, bY, s.waiting, s.tick, rfl, rfl, rfl, H, bD, dA, dB⟩
   rintro _ _ _ - ⟨al, aW, R, P, aX, S, Q, ac, rfl, rfl, rfl, H, ca, cb, dv⟩
   unfold zj at H
   refine fx ?_
   obtain ⟨N, O⟩ := hY H
   subst h u
   refine ⟨(.inl rfl), [(.agg (fj (f6.mk P Q ac) R S).toArray), (sv al)], ⟨(.agg (fj (f6.mk P Q ac) R S).toArray), _, rfl, ⟨_, 3, (fj (f6.mk P Q ac) R S), rfl, rfl, rfl, rfl, ⟨rfl, Rb0 Z⟩, rfl⟩, ⟨(sv al), _, rfl, rfl, rfl⟩⟩, ?_⟩
   refine Shift.settle (T := fF) (.there (.there .here)) cb rfl ?_
   intro et bp dC
   have dE := ca.mono bp
   refine Shift.settle (T := fP) (.there .here) dE rfl ?_
   intro eu bq dD
   refine Pu1<|Re1<|Re1<|?_
   have dF := dC.mono bq
   have dG := (dv.mono bp).mono bq
   exact Sd ⟨R, S, al, rfl, rfl, dF, dG, dD⟩
  ·intro au
   obtain ⟨au, H⟩ := If au H
   refine ft<|fc<|fa<|EF 1 Z<|El (sv c) Z (Rb4 Z)<|Em Z<|?_
   obtain ⟨t, bV, H⟩ := bnd H
   have aS := C.mono g
   obtain ⟨eG, cl, cg⟩ := Slr.at aS bV
   obtain ⟨z, A, rfl, bL, bM⟩ := cl
   refine Eq Z (Qi (T := fQ) aS bV Z)<|EL 8 (gw t z A) Z (Rdc.k cg rfl)<|?_
   refine ff rfl (fC (cs := (gw (gJ.mk 0 (Op.mk 0 0 0 0 0 [] [])) fB fB)) rfl rfl rfl rfl (fun bb => ?_))
   refine ff rfl (Sa (gw t z A) Z .here Z ?_)
   refine fb<|fc<|fa<|EF 1 Z<|EL 7 (fh t.op z A) Z (Rb0 Z)<|EF 1 Z<|El (Vi p4.channel) Z (Rb4 Z)<|?_
   obtain ⟨aE, dS, H⟩ := bnd H
   refine ff rfl (Ek Tryz.call74 Z (qs t.op z A p4.channel true aE dS _ _ bL bM) ?_)
   rintro _ ev _ aa ⟨rfl, rfl⟩
   refine Ea Z<|fb<|fc<|fa<|EF 1 Z<|EL 7 (fh t.op z A) Z (Rb0 Z)<|?_
   obtain ⟨d3, dT, H⟩ := bnd H
   have aT := bL.mono aa
   have aQ := bM.mono aa
   refine ff rfl (Ek Tryz.call44 Z (lu t.op z A d3 dT _ _ aT aQ) ?_)
   rintro _ d4 _ F ⟨eJ, rfl, rfl, bE⟩
   refine Em Z ?_
   obtain ⟨D, bN, H⟩ := bnd H
   obtain ⟨_, rfl, cc⟩ := Slr.at bE bN
   refine Eq Z (Qi (T := fW) bE bN Z)<|EF 2 Z<|El (.int .u64 D.value) Z (Rdc.k cc rfl)<|Ea Z<|fb<|?_
   refine fz (fun M i B => ∃ (j : Int) (n : Bool) (ax : SV) (ad : ad1), [(1, (Vi p1)), (5, (Vp V)), (9, (Vp W)), (10, (Vp E)), (12, (Vp X)), (14, (Vi U)), (17, (Vp aF)), (18, (Vp bb)), (19, (Vi aE))] = M ∧ (.blk bb 96 (gw t z A)) :: (.blk aF 38 (fe (Result.mk 2 a j n 0))) :: (.blk X 104 (fy (fJ.mk b.capacity ad b.closed) ax)) :: (.blk E 60 (fj (f6.mk [] [] 0) fB fB)) :: (.blk W 108 (fk p4)) :: (.blk V 60 (fj p0 d c)) :: G = B ∧ oH p1 U aE t a b p4 p0 j n ad = some (h, u) ∧ Slr Ty.u64 i (sv ax) ad) ?_ ?_
   ·refine fc<|fa<|EF 3 Z<|El (.bool e) Z (Rb1 Z)<|fb<|?_
    refine fm rfl ?_ ?_
    ·intro aK
     have H := ift aK H
     refine fa<|EF 1 Z<|El (sv J) Z (Rb2 Z)<|?_
     refine Ow.shift (Shift.nilTok1 36 1 (Sd ?_))
     obtain ⟨eS, dH, H⟩ := bnd H
     have cn := (aH.mono aa).mono F
     refine ff rfl (ga (T := Ty.u64) (bytes := 8) (q := 0) rfl rfl rfl (Slr.nil Ty.u64 _) Mb0 rfl (SrcT.sl cn) dH rfl rfl rfl rfl rfl rfl rfl rfl (fun eK b6 ey co => ⟨_, .here, ?_⟩))
     refine Em Z ?_
     have br : RowR Ty.u64 b6 [[(.int .u64 D.value)]] [D.value] := RowR.cons rfl (RowR.nil)
     refine ff rfl (gk (T := Ty.u64) (rows := [[(.int .u64 D.value)]]) (l := [D.value]) rfl rfl rfl br rfl rfl rfl rfl rfl rfl rfl rfl (fun eL => ?_))
     obtain ⟨b1, dI, H⟩ := bnd H
     refine ff rfl (ga (T := Ty.u64) (bytes := 8) (q := 0) rfl rfl rfl co Mb1 rfl (SrcT.row Mb0 br rfl) dI rfl rfl rfl rfl rfl rfl rfl rfl (fun aY d5 ez cp => ⟨_, (.there .here), ?_⟩))
     refine Ow.shift (Re0 (Sd ?_))
     refine EF 1 Z ?_
     refine ff rfl (So [(sv aY)] (fy (fJ.mk b.capacity b1 b.closed) aY) Z (.there (.there (.there .here))) Z ?_)
     exact fb<|Pu6<|Pu6<|Pu6<|Pu6<|Pu6<|Pu6<|Re6<|Sd<|⟨_, by exact R9, f, e, aY, b1, rfl, rfl, H, cp⟩
    ·intro aK
     have H := fX (btf aK) H
     refine fa<|Em Z<|EF 2 Z<|?_
     refine ff rfl (So [(.int .u64 D.value)] (fe (Result.mk 2 a D.value e 0)) Z (.there .here) Z ?_)
     refine EF 3 Z ?_
     refine ff rfl (So [(.bool true)] (fe (Result.mk 2 a D.value true 0)) Z (.there .here) Z ?_)
     refine fb<|Pu5<|Pu5<|Pu5<|Pu5<|Pu5<|Pu5<|?_
     have cq := (aH.mono aa).mono F
     exact Sd ⟨_, by exact R9, D.value, true, J, I, rfl, rfl, H, cq⟩
   rintro _ d6 _ Y ⟨j, n, ax, ad, rfl, rfl, H, cm⟩
   unfold oH at H
   refine fc ?_
   obtain ⟨b2, dJ, H⟩ := bnd H
   obtain ⟨r, dK, H⟩ := bnd H
   refine fq _ rfl (Ic Mb0 (Ic Mb1 (Ic Mb2 (Ic Mb3 (Ic Mb4 In0)))))<|Jm 1 Z<|JF 3 1 Z<|Jl 4 (Vi p4.channel) Z (Rb4 Z)<|JL 5 3 (fy (fJ.mk b.capacity ad b.closed) ax) Z (Rb2 Z)<|?_
   refine gB 0 (by kernel_rfl) (Jyq Z (jn (m := 3) (cs := (fj p0 d c)) rfl rfl rfl rfl ⟨rfl, Rb5 Z⟩) ⟨(Ic Mb0 (Ic Mb1 (Ic Mb2 (Ic Mb3 (Ic Mb4 In0))))), ?_⟩)
   refine Ao 2 Z ?_
   have cr := (((x.mono g).mono aa).mono F).mono Y
   have ct := ((aS.mono aa).mono F).mono Y
   refine Ek Tryz.call76 Z (xf p0 d c U b2 dJ _ _ cr ct) ?_
   rintro _ ba _ av ⟨dV, dW, rfl, rfl, cu, cv⟩
   refine ⟨(Ic Mb1 (Ic Mb2 (Ic Mb3 (Ic Mb4 (Ic Mb5 In0))))), ?_⟩
   refine Ao 6 Z ?_
   have cw := cm.mono av
   refine Ek Tryz.call73 Z (nz b2 dV dW p4.channel (fJ.mk b.capacity ad b.closed) ax r dK _ _ cu cv cw) ?_
   rintro _ _ _ - ⟨o, eH, p, rfl, rfl, rfl, bF, bG⟩
   refine ⟨(Ic Mb2 (Ic Mb3 (Ic Mb4 (Ic Mb5 (Ic Mb6 In0))))), ?_⟩
   refine Ao 7 Z ?_
   refine jU (vs := (fj r o p)) (all' := (fj r o p)) rfl rfl rfl rfl rfl (.there (.there (.there (.there (.there (.there (.there .here))))))) rfl rfl rfl ⟨(Ic Mb2 (Ic Mb3 (Ic Mb4 (Ic Mb5 (Ic Mb6 In0))))), ?_⟩
   refine Ad<|fc<|?_
   obtain ⟨am, bO, H⟩ := bnd H
   obtain ⟨b3, bP, H⟩ := bnd H
   refine fq _ rfl (Ic Mb0 (Ic Mb1 (Ic Mb2 (Ic Mb3 (Ic Mb4 (Ic Mb6 (Ic Mb7 In0)))))))<|JL 0 3 (fj r o p) Z (Rb6 Z)<|Jm 1 Z<|JL 2 5 (fe (Result.mk 2 a j n 0)) Z (Rb3 Z)<|Jq 3 Z (fH (cs := (fK (Done.mk p1 (Result.mk 2 a j n 0)))) rfl rfl rfl rfl rfl rfl)<|JF 5 0 Z<|Jl 6 (Vi t.thread) Z (Rb2 Z)<|JF 7 1 Z<|JL 8 7 (fh t.op z A) Z (Rb2 Z)<|Jm 9 Z<|?_
   refine gY 4 10 (by kernel_rfl) ?_ ?_
   ·refine id (Jy Z ?_)
    have bs : RowR fP ba [(fK (Done.mk p1 (Result.mk 2 a j n 0)))] [(Done.mk p1 (Result.mk 2 a j n 0))] := RowR.cons rfl (RowR.nil)
    refine gk (T := fP) (rows := [(fK (Done.mk p1 (Result.mk 2 a j n 0)))]) (l := [(Done.mk p1 (Result.mk 2 a j n 0))]) rfl rfl rfl bs rfl rfl rfl rfl rfl rfl rfl rfl (fun dX => ⟨(Ic Mb1 (Ic Mb2 (Ic Mb3 (Ic Mb4 (Ic Mb5 (Ic Mb7 (Ic Mb8 In0))))))), ?_⟩)
    refine Ao 10 Z ?_
    have cx := ((aT.mono F).mono Y).mono av
    have cy := ((aQ.mono F).mono Y).mono av
    refine Ek Tryz.call75 Z (nA t.op z A aE am bO _ _ cx cy) ?_
    rintro _ _ _ - ⟨rfl, rfl, rfl⟩
    refine ⟨(Ic Mb1 (Ic Mb2 (Ic Mb3 (Ic Mb4 (Ic Mb5 (Ic Mb7 (Ic Mb8 In0))))))), ?_⟩
    refine Jq 11 Z (fH (cs := (fe (Result.mk 1 am 0 false 0))) rfl rfl rfl rfl rfl rfl) ?_
    refine Ao 12 Z ?_
    refine OpW.shift (Shift.settle (T := fP) .here bs rfl (fun d7 bc cz => Sd ?_))
    refine Ek Tryz.call77 Z (qu [(Done.mk p1 (Result.mk 2 a j n 0))] dX t.thread (Result.mk 1 am 0 false 0) b3 bP _ _ cz) ?_
    rintro _ d8 _ bd ⟨aZ, rfl, rfl, cA⟩
    refine ⟨(Ic Mb2 (Ic Mb3 (Ic Mb4 (Ic Mb5 (Ic Mb6 (Ic Mb8 (Ic Mb9 In0))))))), ?_⟩
    refine Ao 13 Z ?_
    refine jU (vs := (fj r o p)) (all' := (fj r o p)) rfl rfl rfl rfl rfl (.there (.there (.there (.there (.there (.there (.there .here))))))) rfl rfl rfl ⟨(Ic Mb2 (Ic Mb3 (Ic Mb4 (Ic Mb5 (Ic Mb6 (Ic Mb8 (Ic Mb9 In0))))))), ?_⟩
    refine Ja 14 Z<|Ad<|fx<|?_
    obtain ⟨N, O⟩ := hY H
    subst h u
    refine ⟨(.inl rfl), [(.agg (fj r o p).toArray), (sv aZ)], ⟨(.agg (fj r o p).toArray), _, rfl, ⟨_, 3, (fj r o p), rfl, rfl, rfl, rfl, ⟨rfl, Rb7 Z⟩, rfl⟩, ⟨(sv aZ), _, rfl, rfl, rfl⟩⟩, ?_⟩
    have cC := (bF.mono bc).mono bd
    refine Shift.settle (T := fF) (.there (.there .here)) cC rfl ?_
    intro d9 be cB
    refine Re1<|Re1<|Re1<|Re1<|Re1<|Re1<|Re1<|Re1<|Re1<|?_
    have cD := ((bG.mono bc).mono bd).mono be
    have cE := cA.mono be
    exact Sd ⟨o, p, aZ, rfl, rfl, cB, cD, cE⟩
   ·refine id (Jy Z ?_)
    have cF := ((aT.mono F).mono Y).mono av
    have cG := ((aQ.mono F).mono Y).mono av
    refine Ek Tryz.call75 Z (nA t.op z A aE am bO _ _ cF cG) ?_
    rintro _ _ _ - ⟨rfl, rfl, rfl⟩
    refine ⟨(Ic Mb0 (Ic Mb1 (Ic Mb2 (Ic Mb3 (Ic Mb4 (Ic Mb6 (Ic Mb7 In0))))))), ?_⟩
    refine Jq 11 Z (fH (cs := (fe (Result.mk 1 am 0 false 0))) rfl rfl rfl rfl rfl rfl) ?_
    refine Ao 4 Z ?_
    have bt : RowR fP ba [(fK (Done.mk p1 (Result.mk 2 a j n 0)))] [(Done.mk p1 (Result.mk 2 a j n 0))] := RowR.cons rfl (RowR.nil)
    refine gk (T := fP) (rows := [(fK (Done.mk p1 (Result.mk 2 a j n 0)))]) (l := [(Done.mk p1 (Result.mk 2 a j n 0))]) rfl rfl rfl bt rfl rfl rfl rfl rfl rfl rfl rfl (fun dY => ⟨(Ic Mb1 (Ic Mb2 (Ic Mb3 (Ic Mb4 (Ic Mb5 (Ic Mb7 (Ic Mb8 In0))))))), ?_⟩)
    refine Ao 12 Z ?_
    refine OpW.shift (Shift.settle (T := fP) .here bt rfl (fun ea bf cH => Sd ?_))
    refine Ek Tryz.call77 Z (qu [(Done.mk p1 (Result.mk 2 a j n 0))] dY t.thread (Result.mk 1 am 0 false 0) b3 bP _ _ cH) ?_
    rintro _ eb _ bg ⟨a0, rfl, rfl, cI⟩
    refine ⟨(Ic Mb2 (Ic Mb3 (Ic Mb4 (Ic Mb5 (Ic Mb6 (Ic Mb8 (Ic Mb9 In0))))))), ?_⟩
    refine Ao 13 Z ?_
    refine jU (vs := (fj r o p)) (all' := (fj r o p)) rfl rfl rfl rfl rfl (.there (.there (.there (.there (.there (.there (.there .here))))))) rfl rfl rfl ⟨(Ic Mb2 (Ic Mb3 (Ic Mb4 (Ic Mb5 (Ic Mb6 (Ic Mb8 (Ic Mb9 In0))))))), ?_⟩
    refine Ja 14 Z<|Ad<|fx<|?_
    obtain ⟨N, O⟩ := hY H
    subst h u
    refine ⟨(.inl rfl), [(.agg (fj r o p).toArray), (sv a0)], ⟨(.agg (fj r o p).toArray), _, rfl, ⟨_, 3, (fj r o p), rfl, rfl, rfl, rfl, ⟨rfl, Rb7 Z⟩, rfl⟩, ⟨(sv a0), _, rfl, rfl, rfl⟩⟩, ?_⟩
    have cK := (bF.mono bf).mono bg
    refine Shift.settle (T := fF) (.there (.there .here)) cK rfl ?_
    intro ec bh cJ
    refine Re1<|Re1<|Re1<|Re1<|Re1<|Re1<|Re1<|Re1<|Re1<|?_
    have cL := ((bG.mono bf).mono bg).mono bh
    have cM := cI.mono bh
    exact Sd ⟨o, p, a0, rfl, rfl, cJ, cL, cM⟩
end Go.Hx
namespace Go.Hx
open Go Go.Proofs
set_option maxRecDepth 10000
set_option maxHeartbeats 1000000
theorem C0 (p0 : f6) (a : SV) (b : SV) (p1 : Int) (p2 : Op) (c : SV) (d : SV) (i : f6) (o : ad8) (p : Bool) (H : rL p0 p1 p2 = some (i, o, p)) (K : Kp) (G : List Ent) (h : Slr fF K (sv a) p0.chans) (s : Slr fQ K (sv b) p0.waiting) (I : Slr fW K (sv c) p2.cases) (J : Slr Ty.i64 K (sv d) p2.draws) :
  Fc Tryz.prog 24 #[(.agg (fj p0 a b).toArray), (Vi p1), (.agg (fh p2 c d).toArray)] K (G) (fun v g n => ∃ (bb : SV) (bc : SV) (aG : SV), v = (.tuple #[(.agg (fj i bb bc).toArray), (sv aG), (.bool p)]) ∧ (.tok 67 6 [(sv aG)]) :: G = n ∧ Slr fF g (sv bb) i.chans ∧ Slr fQ g (sv bc) i.waiting ∧ Slr fP g (sv aG) o) := by
 refine fN Tryz.func24 rfl Tryz.ntmps24 Tryz.results24 rfl ?_
 unfold rL at H
 refine fc<|fa<|?_
 refine ff rfl (fR (cs := (fj p0 a b)) rfl rfl rfl (fun u => ?_))
 refine ff rfl (fR (cs := (fh p2 c d)) rfl rfl rfl (fun F => ?_))
 refine ff rfl (fC (cs := (fj (f6.mk [] [] 0) fB fB)) rfl rfl rfl rfl (fun r => ?_))
 refine Ea Z<|Ea Z<|fb<|fc<|fc<|fa<|EF 0 Z<|El (Vi p2.kind) Z (Rb1 Z)<|fb<|fA<|fc<|fa<|Ec Z<|Ea Z<|fb<|?_
 refine fm rfl ?_ ?_
 ·intro Y
  obtain ⟨Y, H⟩ := It Y H
  refine fc<|fa<|EL 3 (fj p0 a b) Z (Rb2 Z)<|Em Z<|EL 7 (fh p2 c d) Z (Rb1 Z)<|?_
  obtain ⟨Q, cT, cJ, H⟩ := ir H
  refine ff rfl (Ek Tryz.call41 Z (CX p0 a b p1 p2 c d Q cT cJ _ _ h s I J) ?_)
  rintro _ c1 _ dl ⟨N, O, aB, rfl, rfl, bG, bH, bI⟩
  refine Em Z<|Ex Z<|Ex Z<|?_
  refine ff rfl (fC (cs := (fj (f6.mk [] [] 0) fB fB)) rfl rfl rfl rfl (fun di => ?_))
  refine ff rfl (Sa (fj Q N O) Z .here Z ?_)
  refine Ea Z<|fb<|fc<|fa<|EL 3 (fj Q N O) Z (Rb0 Z)<|Em Z<|?_
  refine ff rfl (Sa (fj Q N O) Z (.there (.there .here)) Z ?_)
  refine Ea Z<|Ea Z<|fb<|fx<|?_
  obtain ⟨V, W, X⟩ := jP H
  subst i o p
  refine ⟨(.inl rfl), [(.agg (fj Q N O).toArray), (sv aB), (.bool false)], ⟨(.agg (fj Q N O).toArray), _, rfl, ⟨_, 3, (fj Q N O), rfl, rfl, rfl, rfl, ⟨rfl, Rb2 Z⟩, rfl⟩, ⟨(sv aB), _, rfl, rfl, ⟨(.bool false), _, rfl, rfl, rfl⟩⟩⟩, ?_⟩
  exact Pu1<|Re1<|Re1<|Re1<|Re1<|Sd<|⟨N, O, aB, rfl, rfl, bG, bH, bI⟩
 ·intro Y
  obtain ⟨Y, H⟩ := If Y H
  refine fz (fun t g n => ∃ (aw : Bool), [(1, (Vi p1)), (3, (Vp u)), (5, (Vp F)), (6, (Vp r)), (28, (.bool aw))] = t ∧ K = g ∧ (.blk r 60 (fj (f6.mk [] [] 0) fB fB)) :: (.blk F 51 (fh p2 c d)) :: (.blk u 60 (fj p0 a b)) :: G = n ∧ sP p1 p2 p0 aw = some (i, o, p)) ?_ ?_
  ·refine fc<|fa<|Ec Z<|Ea Z<|fb<|?_
   refine fm rfl ?_ ?_
   ·intro aa
    obtain ⟨aa, H⟩ := It aa H
    exact ft<|Pu2<|Pu2<|Pu2<|Sd<|⟨_, by exact R5, (dcd (p2.kind = 5)), rfl, rfl, rfl, H⟩
   ·intro aa
    obtain ⟨aa, H⟩ := If aa H
    exact fa<|Ec Z<|Ea Z<|fb<|Pu2<|Pu2<|Pu2<|Sd<|⟨_, by exact R5, (dcd (p2.kind = 6)), rfl, rfl, rfl, H⟩
  rintro _ _ _ - ⟨aw, rfl, rfl, rfl, H⟩
  unfold sP at H
  refine fm rfl ?_ ?_
  ·intro an
   have H := ift an H
   refine fc<|fa<|Ea Z<|fb<|?_
   refine fz (fun t g n => ∃ (y : Int), [(1, (Vi p1)), (3, (Vp u)), (6, (Vp r)), (11, (Vi y))] = t ∧ K = g ∧ (.blk r 60 (fj (f6.mk [] [] 0) fB fB)) :: (.blk u 60 (fj p0 a b)) :: G = n ∧ oI p1 p0 y = some (i, o, p)) ?_ ?_
   ·refine fz (fun t g n => ∃ (ax : Bool), [(1, (Vi p1)), (3, (Vp u)), (5, (Vp F)), (6, (Vp r)), (11, (Vi 0)), (41, (.bool ax))] = t ∧ K = g ∧ (.blk r 60 (fj (f6.mk [] [] 0) fB fB)) :: (.blk F 51 (fh p2 c d)) :: (.blk u 60 (fj p0 a b)) :: G = n ∧ rK p1 p2 p0 ax = some (i, o, p)) ?_ ?_
    ·refine fa<|EF 2 Z<|El (Vi p2.channel) Z (Rb1 Z)<|Ec Z<|Em Z<|?_
     refine Ee Z ?_ ?_
     ·intro ab
      obtain ⟨ab, H⟩ := It ab H
      exact VF 2 Z<|Vl (Vi p2.channel) Z (Rb1 Z)<|VF 0 Z<|Vl (sv a) Z (Rb2 Z)<|Vq Z (gg (T := fF) h rfl rfl)<|Vc Z<|Et Z<|fb<|Pu2<|Pu2<|Pu2<|Sd<|⟨_, by exact R6, (dcd (p2.channel < (p0.chans.length : Int))), rfl, rfl, rfl, H⟩
     ·intro ab
      obtain ⟨ab, H⟩ := If ab H
      exact Ez Z<|Ez Z<|Ez Z<|Ez Z<|Ez Z<|Ez Z<|Ef Z<|fb<|Pu2<|Pu2<|Pu2<|Sd<|⟨_, by exact R6, false, rfl, rfl, rfl, H⟩
    rintro _ _ _ - ⟨ax, rfl, rfl, rfl, H⟩
    unfold rK at H
    refine fm rfl ?_ ?_
    ·intro ao
     have H := ift ao H
     refine fc<|fa<|EF 0 Z<|El (sv a) Z (Rb2 Z)<|EF 2 Z<|El (Vi p2.channel) Z (Rb1 Z)<|?_
     obtain ⟨cU, aX, H⟩ := bnd H
     obtain ⟨dx, bv, bq⟩ := Slr.at h aX
     obtain ⟨cN, rfl, bJ⟩ := bv
     refine Eq Z (Qi (T := fF) h aX Z)<|EF 1 Z<|El (sv cN) Z (Rdc.k bq rfl)<|Eq Z (gg (T := Ty.u64) bJ rfl rfl)<|Ea Z<|fb<|fc<|fa<|EF 0 Z<|El (Vi p2.kind) Z (Rb1 Z)<|Ec Z<|fb<|?_
     refine fm rfl ?_ ?_
     ·intro ac
      obtain ⟨ac, H⟩ := It ac H
      refine fa<|EF 0 Z<|El (sv a) Z (Rb2 Z)<|EF 2 Z<|El (Vi p2.channel) Z (Rb1 Z)<|?_
      obtain ⟨bd, aY, H⟩ := bnd H
      obtain ⟨dy, bw, br⟩ := Slr.at h aY
      obtain ⟨dB, rfl, dw⟩ := bw
      exact Eq Z (Qi (T := fF) h aY Z)<|EF 0 Z<|El (Vi bd.capacity) Z (Rdc.k br rfl)<|Ea Z<|fb<|Pu2<|Pu1<|Re2<|Sd<|⟨_, by exact R4, bd.capacity, rfl, rfl, rfl, H⟩
     ·intro ac
      obtain ⟨ac, H⟩ := If ac H
      exact ft<|Pu2<|Pu1<|Re2<|Sd<|⟨_, by exact R4, (cU.buffer.length : Int), rfl, rfl, rfl, H⟩
    ·intro ao
     have H := fX (btf ao) H
     exact ft<|Pu2<|Pu1<|Re2<|Sd<|⟨_, by exact R4, 0, rfl, rfl, rfl, H⟩
   rintro _ _ _ - ⟨y, rfl, rfl, rfl, H⟩
   unfold oI at H
   refine fc<|fa<|EL 3 (fj p0 a b) Z (Rb1 Z)<|Em Z<|Em Z<|Eq Z (fH (cs := (fe (Result.mk 7 (-1) 0 false y))) rfl rfl rfl rfl rfl rfl)<|Eq Z (fH (cs := (fK (Done.mk p1 (Result.mk 7 (-1) 0 false y)))) rfl rfl rfl rfl rfl rfl)<|?_
   have aN : RowR fP K [(fK (Done.mk p1 (Result.mk 7 (-1) 0 false y)))] [(Done.mk p1 (Result.mk 7 (-1) 0 false y))] := RowR.cons rfl (RowR.nil)
   refine ff rfl (gk (T := fP) (rows := [(fK (Done.mk p1 (Result.mk 7 (-1) 0 false y)))]) (l := [(Done.mk p1 (Result.mk 7 (-1) 0 false y))]) rfl rfl rfl aN rfl rfl rfl rfl rfl rfl rfl rfl (fun aC => ?_))
   refine ff rfl (Sa (fj p0 a b) Z (.there .here) Z ?_)
   refine Ea Z<|Ea Z<|fb<|fx<|?_
   obtain ⟨V, W, X⟩ := jP H
   subst i o p
   refine ⟨(.inl rfl), [(.agg (fj p0 a b).toArray), (sv aC), (.bool false)], ⟨(.agg (fj p0 a b).toArray), _, rfl, ⟨_, 3, (fj p0 a b), rfl, rfl, rfl, rfl, ⟨rfl, Rb1 Z⟩, rfl⟩, ⟨(sv aC), _, rfl, rfl, ⟨(.bool false), _, rfl, rfl, rfl⟩⟩⟩, ?_⟩
   refine Shift.settle (T := fP) .here aN rfl ?_
   intro c2 aH bK
   refine Re1<|Re1<|?_
   have bL := h.mono aH
   have bM := s.mono aH
   exact Sd ⟨a, b, aC, rfl, rfl, bL, bM, bK⟩
  ·intro an
   have H := fX (btf an) H
   refine ft<|fc<|fa<|Ea Z<|fb<|?_
   refine fz (fun t g n => ∃ (L : Int), [(1, (Vi p1)), (3, (Vp u)), (5, (Vp F)), (6, (Vp r)), (12, (Vi L))] = t ∧ (.blk r 60 (fj (f6.mk [] [] 0) fB fB)) :: (.blk F 51 (fh p2 c d)) :: (.blk u 60 (fj p0 a b)) :: G = n ∧ sO p1 p2 p0 L = some (i, o, p)) ?_ ?_
   ·refine fc<|fa<|EF 0 Z<|El (Vi p2.kind) Z (Rb1 Z)<|Ec Z<|fb<|?_
    refine fm rfl ?_ ?_
    ·intro ad
     obtain ⟨ad, H⟩ := It ad H
     refine fa<|EL 3 (fj p0 a b) Z (Rb2 Z)<|Em Z<|EL 7 (fh p2 c d) Z (Rb1 Z)<|?_
     obtain ⟨be, cK, H⟩ := bnd H
     refine ff rfl (Ek Tryz.call42 Z (CZ p0 a b p1 p2 c d be cK _ _ h s I J) ?_)
     rintro _ c3 _ dm ⟨rfl, rfl⟩
     exact Ea Z<|fb<|Pu2<|Pu2<|Pu2<|Sd<|⟨_, by exact R5, be, rfl, rfl, H⟩
    ·intro ad
     obtain ⟨ad, H⟩ := If ad H
     refine fc ?_
     obtain ⟨cV, cL, H⟩ := bnd H
     obtain ⟨bf, aZ, H⟩ := bnd H
     obtain ⟨cW, cM, H⟩ := bnd H
     refine fq _ rfl (Ic Mb0 (Ic Mb1 (Ic Mb2 In0)))<|JL 0 3 (fj p0 a b) Z (Rb2 Z)<|Jm 1 Z<|JL 2 7 (fh p2 c d) Z (Rb1 Z)<|?_
     refine Ao 3 Z ?_
     refine Ek Tryz.call44 Z (lu p2 c d cV cL _ _ I J) ?_
     rintro _ c4 _ aI ⟨dC, rfl, rfl, aT⟩
     refine ⟨(Ic Mb0 (Ic Mb1 (Ic Mb2 In0))), ?_⟩
     obtain ⟨_, rfl, bs⟩ := Slr.at aT aZ
     refine gB 4 (by kernel_rfl) (Jyq Z (Qi (T := fW) aT aZ Z) ⟨(Ic Mb0 (Ic Mb1 (Ic Mb2 In0))), ?_⟩)
     refine gB 5 (by kernel_rfl) (Jyq Z (jn (m := 3) (cs := (fk bf)) rfl rfl rfl rfl ⟨rfl, Rdc.k bs rfl⟩) ⟨(Ic Mb0 (Ic Mb1 (Ic Mb2 In0))), ?_⟩)
     refine Ao 6 Z ?_
     have bN := h.mono aI
     have bO := s.mono aI
     refine Ek Tryz.call43 Z (yb p0 a b p1 bf cW cM _ _ bN bO) ?_
     rintro _ c5 _ dn ⟨rfl, rfl⟩
     refine ⟨(Ic Mb0 (Ic Mb1 (Ic Mb2 In0))), ?_⟩
     refine Ad ?_
     refine fm rfl ?_ ?_
     ·intro ap
      have H := ift ap H
      exact fa<|Ea Z<|fb<|Pu2<|Pu2<|Pu2<|Sd<|⟨_, by exact R5, 0, rfl, rfl, H⟩
     ·intro ap
      have H := fX (btf ap) H
      exact ft<|Pu2<|Pu2<|Pu2<|Sd<|⟨_, by exact R5, (-1), rfl, rfl, H⟩
   rintro _ U _ e ⟨L, rfl, rfl, H⟩
   unfold sO at H
   refine fc<|fc<|fa<|Em Z<|Ec Z<|fb<|?_
   refine fm rfl ?_ ?_
   ·intro ae
    obtain ⟨ae, H⟩ := It ae H
    refine fz (fun t g n => ∃ (am : Nat) (P : SV) (av : ad8) (C : SV) (z : ad0) (D : SV) (A : af1) (M : Int), [(6, (Vp r)), (13, (Vp am)), (14, (sv P))] = t ∧ (.blk am 60 (fj (f6.mk z A M) C D)) :: (.blk r 60 (fj (f6.mk [] [] 0) fB fB)) :: (.tok 67 6 [(sv P)]) :: G = n ∧ zk av z A M = some (i, o, p) ∧ Slr fP g (sv P) av ∧ Slr fF g (sv C) z ∧ Slr fQ g (sv D) A) ?_ ?_
    ·obtain ⟨bg, a0, H⟩ := bnd H
     obtain ⟨E, R, H⟩ := bnd H
     obtain ⟨f, x, aj, H⟩ := ir H
     refine fq _ rfl (Ic Mb0 (Ic Mb1 (Ic Mb2 In0)))<|JL 0 3 (fj p0 a b) Z (Rb2 Z)<|Jm 1 Z<|JL 2 7 (fh p2 c d) Z (Rb1 Z)<|Jm 3 Z<|JL 4 7 (fh p2 c d) Z (Rb1 Z)<|Jm 6 Z<|?_
     refine gY 5 13 (by kernel_rfl) ?_ ?_
     ·refine id (Jy Z ?_)
      have ah := I.mono e
      have ai := J.mono e
      refine Ek Tryz.call44 Z (lu p2 c d bg a0 _ _ ah ai) ?_
      rintro _ c6 _ j ⟨dD, rfl, rfl, al⟩
      refine ⟨(Ic Mb0 (Ic Mb1 (Ic Mb2 In0))), ?_⟩
      refine gY 7 13 (by kernel_rfl) ?_ ?_
      ·obtain ⟨_, rfl, aS⟩ := Slr.at al R
       refine id (Jyq Z (Qi (T := fW) al R Z) ⟨(Ic Mb0 (Ic Mb1 (Ic Mb2 In0))), ?_⟩)
       refine gY 8 13 (by kernel_rfl) ?_ ?_
       ·refine id (Jyq Z (jn (m := 3) (cs := (fk E)) rfl rfl rfl rfl ⟨rfl, Rdc.k aS rfl⟩) ⟨(Ic Mb0 (Ic Mb1 (Ic Mb2 In0))), ?_⟩)
        refine gY 9 13 (by kernel_rfl) ?_ ?_
        ·refine id (Jy Z ?_)
         have bS := (h.mono e).mono j
         have bT := (s.mono e).mono j
         have bU := ah.mono j
         have bV := ai.mono j
         refine Ek Tryz.call45 Z (lR p0 a b p1 p2 c d L E f x aj _ _ bS bT bU bV) ?_
         rintro _ c7 _ dp ⟨a1, a2, cO, rfl, rfl, bW, bX, bY⟩
         refine ⟨(Ic Mb1 (Ic Mb2 (Ic Mb3 In0))), ?_⟩
         refine Jm 10 Z<|Jx 11 Z<|Jx 12 Z<|?_
         refine Ao 13 Z ?_
         refine fC (cs := (fj (f6.mk [] [] 0) fB fB)) rfl rfl rfl rfl (fun bi => ⟨(Ic Mb2 (Ic Mb3 (Ic Mb4 In0))), ?_⟩)
         refine Ao 14 Z ?_
         refine Sa (fj f a1 a2) Z .here Z ⟨(Ic Mb2 (Ic Mb3 (Ic Mb4 In0))), ?_⟩
         exact Ja 15 Z<|Ad<|Pu1<|Pu2<|Pu2<|Re3<|Re3<|Sd<|⟨_, by exact R3, bi, cO, x, a1, f.chans, a2, f.waiting, f.tick, rfl, rfl, H, bY, bW, bX⟩
        ·refine id (Jy Z ?_)
         refine fC (cs := (fj (f6.mk [] [] 0) fB fB)) rfl rfl rfl rfl (fun bj => ⟨(Ic Mb1 (Ic Mb2 (Ic Mb3 In0))), ?_⟩)
         refine Ao 9 Z ?_
         have bZ := (h.mono e).mono j
         have b0 := (s.mono e).mono j
         have b1 := ah.mono j
         have b2 := ai.mono j
         refine Ek Tryz.call45 Z (lR p0 a b p1 p2 c d L E f x aj _ _ bZ b0 b1 b2) ?_
         rintro _ c8 _ dq ⟨a3, a4, cP, rfl, rfl, b3, b4, b5⟩
         refine ⟨(Ic Mb2 (Ic Mb3 (Ic Mb4 In0))), ?_⟩
         refine Jm 10 Z<|Jx 11 Z<|Jx 12 Z<|?_
         refine Ao 14 Z ?_
         refine Sa (fj f a3 a4) Z (.there .here) Z ⟨(Ic Mb2 (Ic Mb3 (Ic Mb4 In0))), ?_⟩
         exact Ja 15 Z<|Ad<|Pu2<|Pu2<|Re3<|Re3<|Sd<|⟨_, by exact R3, bj, cP, x, a3, f.chans, a4, f.waiting, f.tick, rfl, rfl, H, b5, b3, b4⟩
       ·refine id (Jy Z ?_)
        refine fC (cs := (fj (f6.mk [] [] 0) fB fB)) rfl rfl rfl rfl (fun bk => ⟨(Ic Mb1 (Ic Mb2 (Ic Mb3 In0))), ?_⟩)
        refine gB 8 (by kernel_rfl) (Jyq Z (jn (m := 3) (cs := (fk E)) rfl rfl rfl rfl ⟨rfl, Rdc.k aS rfl⟩) ⟨(Ic Mb1 (Ic Mb2 (Ic Mb3 In0))), ?_⟩)
        refine Ao 9 Z ?_
        have b6 := (h.mono e).mono j
        have b7 := (s.mono e).mono j
        have b8 := ah.mono j
        have b9 := ai.mono j
        refine Ek Tryz.call45 Z (lR p0 a b p1 p2 c d L E f x aj _ _ b6 b7 b8 b9) ?_
        rintro _ c9 _ dr ⟨a5, a6, cQ, rfl, rfl, ca, cb, cc⟩
        refine ⟨(Ic Mb2 (Ic Mb3 (Ic Mb4 In0))), ?_⟩
        refine Jm 10 Z<|Jx 11 Z<|Jx 12 Z<|?_
        refine Ao 14 Z ?_
        refine Sa (fj f a5 a6) Z (.there .here) Z ⟨(Ic Mb2 (Ic Mb3 (Ic Mb4 In0))), ?_⟩
        exact Ja 15 Z<|Ad<|Pu2<|Pu2<|Re3<|Re3<|Sd<|⟨_, by exact R3, bk, cQ, x, a5, f.chans, a6, f.waiting, f.tick, rfl, rfl, H, cc, ca, cb⟩
      ·refine id (Jy Z ?_)
       refine fC (cs := (fj (f6.mk [] [] 0) fB fB)) rfl rfl rfl rfl (fun bl => ⟨(Ic Mb1 (Ic Mb2 (Ic Mb3 In0))), ?_⟩)
       obtain ⟨_, rfl, bt⟩ := Slr.at al R
       refine gB 7 (by kernel_rfl) (Jyq Z (Qi (T := fW) al R Z) ⟨(Ic Mb1 (Ic Mb2 (Ic Mb3 In0))), ?_⟩)
       refine gB 8 (by kernel_rfl) (Jyq Z (jn (m := 3) (cs := (fk E)) rfl rfl rfl rfl ⟨rfl, Rdc.k bt rfl⟩) ⟨(Ic Mb1 (Ic Mb2 (Ic Mb3 In0))), ?_⟩)
       refine Ao 9 Z ?_
       have cd := (h.mono e).mono j
       have ce := (s.mono e).mono j
       have cf := ah.mono j
       have cg := ai.mono j
       refine Ek Tryz.call45 Z (lR p0 a b p1 p2 c d L E f x aj _ _ cd ce cf cg) ?_
       rintro _ da _ ds ⟨a7, a8, cR, rfl, rfl, ch, ci, cj⟩
       refine ⟨(Ic Mb2 (Ic Mb3 (Ic Mb4 In0))), ?_⟩
       refine Jm 10 Z<|Jx 11 Z<|Jx 12 Z<|?_
       refine Ao 14 Z ?_
       refine Sa (fj f a7 a8) Z (.there .here) Z ⟨(Ic Mb2 (Ic Mb3 (Ic Mb4 In0))), ?_⟩
       exact Ja 15 Z<|Ad<|Pu2<|Pu2<|Re3<|Re3<|Sd<|⟨_, by exact R3, bl, cR, x, a7, f.chans, a8, f.waiting, f.tick, rfl, rfl, H, cj, ch, ci⟩
     ·refine id (Jy Z ?_)
      refine fC (cs := (fj (f6.mk [] [] 0) fB fB)) rfl rfl rfl rfl (fun bm => ⟨(Ic Mb1 (Ic Mb2 (Ic Mb3 In0))), ?_⟩)
      refine Ao 5 Z ?_
      have aU := I.mono e
      have aV := J.mono e
      refine Ek Tryz.call44 Z (lu p2 c d bg a0 _ _ aU aV) ?_
      rintro _ db _ ak ⟨dE, rfl, rfl, aW⟩
      refine ⟨(Ic Mb1 (Ic Mb2 (Ic Mb3 In0))), ?_⟩
      obtain ⟨_, rfl, bu⟩ := Slr.at aW R
      refine gB 7 (by kernel_rfl) (Jyq Z (Qi (T := fW) aW R Z) ⟨(Ic Mb1 (Ic Mb2 (Ic Mb3 In0))), ?_⟩)
      refine gB 8 (by kernel_rfl) (Jyq Z (jn (m := 3) (cs := (fk E)) rfl rfl rfl rfl ⟨rfl, Rdc.k bu rfl⟩) ⟨(Ic Mb1 (Ic Mb2 (Ic Mb3 In0))), ?_⟩)
      refine Ao 9 Z ?_
      have ck := (h.mono e).mono ak
      have cl := (s.mono e).mono ak
      have cm := aU.mono ak
      have cn := aV.mono ak
      refine Ek Tryz.call45 Z (lR p0 a b p1 p2 c d L E f x aj _ _ ck cl cm cn) ?_
      rintro _ dc _ dt ⟨a9, ba, cS, rfl, rfl, co, cp, cq⟩
      refine ⟨(Ic Mb2 (Ic Mb3 (Ic Mb4 In0))), ?_⟩
      refine Jm 10 Z<|Jx 11 Z<|Jx 12 Z<|?_
      refine Ao 14 Z ?_
      refine Sa (fj f a9 ba) Z (.there .here) Z ⟨(Ic Mb2 (Ic Mb3 (Ic Mb4 In0))), ?_⟩
      exact Ja 15 Z<|Ad<|Pu2<|Pu2<|Re3<|Re3<|Sd<|⟨_, by exact R3, bm, cS, x, a9, f.chans, ba, f.waiting, f.tick, rfl, rfl, H, cq, co, cp⟩
    rintro _ dd _ du ⟨am, P, av, C, z, D, A, M, rfl, rfl, H, bP, bQ, bR⟩
    unfold zk at H
    refine fc<|fa<|EL 3 (fj (f6.mk z A M) C D) Z (Rb0 Z)<|Em Z<|?_
    refine ff rfl (Sa (fj (f6.mk z A M) C D) Z (.there .here) Z ?_)
    refine Ea Z<|Ea Z<|fb<|fx<|?_
    obtain ⟨V, W, X⟩ := jP H
    subst i o p
    refine ⟨(.inl rfl), [(.agg (fj (f6.mk z A M) C D).toArray), (sv P), (.bool false)], ⟨(.agg (fj (f6.mk z A M) C D).toArray), _, rfl, ⟨_, 3, (fj (f6.mk z A M) C D), rfl, rfl, rfl, rfl, ⟨rfl, Rb1 Z⟩, rfl⟩, ⟨(sv P), _, rfl, rfl, ⟨(.bool false), _, rfl, rfl, rfl⟩⟩⟩, ?_⟩
    exact Pu2<|Re1<|Re1<|Sd<|⟨C, D, P, rfl, rfl, bQ, bR, bP⟩
   ·intro ae
    obtain ⟨ae, H⟩ := If ae H
    refine ft<|fc<|fc<|fa<|EF 1 Z<|El (Vi p2.mode) Z (Rb1 Z)<|Ec Z<|fb<|?_
    refine fm rfl ?_ ?_
    ·intro af
     obtain ⟨af, H⟩ := It af H
     refine fc<|fa<|EL 3 (fj p0 a b) Z (Rb2 Z)<|Em Z<|Eq Z (fH (cs := (fe (Result.mk 3 (-1) 0 false 0))) rfl rfl rfl rfl rfl rfl)<|Eq Z (fH (cs := (fK (Done.mk p1 (Result.mk 3 (-1) 0 false 0)))) rfl rfl rfl rfl rfl rfl)<|?_
     have aO : RowR fP U [(fK (Done.mk p1 (Result.mk 3 (-1) 0 false 0)))] [(Done.mk p1 (Result.mk 3 (-1) 0 false 0))] := RowR.cons rfl (RowR.nil)
     refine ff rfl (gk (T := fP) (rows := [(fK (Done.mk p1 (Result.mk 3 (-1) 0 false 0)))]) (l := [(Done.mk p1 (Result.mk 3 (-1) 0 false 0))]) rfl rfl rfl aO rfl rfl rfl rfl rfl rfl rfl rfl (fun aD => ?_))
     refine ff rfl (Sa (fj p0 a b) Z (.there .here) Z ?_)
     refine Ea Z<|Ea Z<|fb<|fx<|?_
     obtain ⟨V, W, X⟩ := jP H
     subst i o p
     refine ⟨(.inl rfl), [(.agg (fj p0 a b).toArray), (sv aD), (.bool false)], ⟨(.agg (fj p0 a b).toArray), _, rfl, ⟨_, 3, (fj p0 a b), rfl, rfl, rfl, rfl, ⟨rfl, Rb1 Z⟩, rfl⟩, ⟨(sv aD), _, rfl, rfl, ⟨(.bool false), _, rfl, rfl, rfl⟩⟩⟩, ?_⟩
     refine Shift.settle (T := fP) .here aO rfl ?_
     intro de aJ cr
     refine Re1<|Re1<|Re1<|?_
     have ct := (h.mono e).mono aJ
     have cu := (s.mono e).mono aJ
     exact Sd ⟨a, b, aD, rfl, rfl, ct, cu, cr⟩
    ·intro af
     obtain ⟨af, H⟩ := If af H
     refine ft<|fc<|?_
     refine fz (fun t g n => ∃ (ay : Bool), [(1, (Vi p1)), (3, (Vp u)), (5, (Vp F)), (6, (Vp r)), (114, (.bool ay))] = t ∧ U = g ∧ (.blk r 60 (fj (f6.mk [] [] 0) fB fB)) :: (.blk F 51 (fh p2 c d)) :: (.blk u 60 (fj p0 a b)) :: G = n ∧ oJ p1 p2 p0 ay = some (i, o, p)) ?_ ?_
     ·refine fa<|EF 1 Z<|El (Vi p2.mode) Z (Rb1 Z)<|Ec Z<|Em Z<|?_
      refine Ee Z ?_ ?_
      ·intro ag
       obtain ⟨ag, H⟩ := It ag H
       exact VF 4 Z<|Vl (Vi p2.deadline) Z (Rb1 Z)<|VF 2 Z<|Vl (Vi p0.tick) Z (Rb2 Z)<|Vc Z<|Et Z<|fb<|Pu2<|Pu2<|Pu2<|Sd<|⟨_, by exact R5, (dcd (p2.deadline ≤ p0.tick)), rfl, rfl, rfl, H⟩
      ·intro ag
       obtain ⟨ag, H⟩ := If ag H
       exact Ez Z<|Ez Z<|Ez Z<|Ez Z<|Ez Z<|Ef Z<|fb<|Pu2<|Pu2<|Pu2<|Sd<|⟨_, by exact R5, false, rfl, rfl, rfl, H⟩
     rintro _ _ _ - ⟨ay, rfl, rfl, rfl, H⟩
     unfold oJ at H
     refine fm rfl ?_ ?_
     ·intro aq
      have H := ift aq H
      refine fc<|fa<|EL 3 (fj p0 a b) Z (Rb2 Z)<|Em Z<|Eq Z (fH (cs := (fe (Result.mk 4 (-1) 0 false 0))) rfl rfl rfl rfl rfl rfl)<|Eq Z (fH (cs := (fK (Done.mk p1 (Result.mk 4 (-1) 0 false 0)))) rfl rfl rfl rfl rfl rfl)<|?_
      have aP : RowR fP U [(fK (Done.mk p1 (Result.mk 4 (-1) 0 false 0)))] [(Done.mk p1 (Result.mk 4 (-1) 0 false 0))] := RowR.cons rfl (RowR.nil)
      refine ff rfl (gk (T := fP) (rows := [(fK (Done.mk p1 (Result.mk 4 (-1) 0 false 0)))]) (l := [(Done.mk p1 (Result.mk 4 (-1) 0 false 0))]) rfl rfl rfl aP rfl rfl rfl rfl rfl rfl rfl rfl (fun aE => ?_))
      refine ff rfl (Sa (fj p0 a b) Z (.there .here) Z ?_)
      refine Ea Z<|Ea Z<|fb<|fx<|?_
      obtain ⟨V, W, X⟩ := jP H
      subst i o p
      refine ⟨(.inl rfl), [(.agg (fj p0 a b).toArray), (sv aE), (.bool false)], ⟨(.agg (fj p0 a b).toArray), _, rfl, ⟨_, 3, (fj p0 a b), rfl, rfl, rfl, rfl, ⟨rfl, Rb1 Z⟩, rfl⟩, ⟨(sv aE), _, rfl, rfl, ⟨(.bool false), _, rfl, rfl, rfl⟩⟩⟩, ?_⟩
      refine Shift.settle (T := fP) .here aP rfl ?_
      intro df aK cv
      refine Re1<|Re1<|Re1<|?_
      have cw := (h.mono e).mono aK
      have cx := (s.mono e).mono aK
      exact Sd ⟨a, b, aE, rfl, rfl, cw, cx, cv⟩
     ·intro aq
      have H := fX (btf aq) H
      refine ft ?_
      refine fz (fun t g n => ∃ (w : SV) (B : af1), [(3, (Vp u)), (6, (Vp r))] = t ∧ (.blk r 60 (fj (f6.mk [] [] 0) fB fB)) :: (.blk u 60 (fj (f6.mk p0.chans B p0.tick) a w)) :: (.tok 96 8 [(sv w)]) :: G = n ∧ zl p0 B = some (i, o, p) ∧ Slr fQ g (sv w) B) ?_ ?_
      ·obtain ⟨dJ, ar, H⟩ := bnd H
       obtain ⟨S, au, H⟩ := bnd H
       refine fq _ rfl (Ic Mb0 (Ic Mb1 In0))<|JF 0 1 Z<|Jm 3 Z<|JL 4 7 (fh p2 c d) Z (Rb1 Z)<|Jq 5 Z (fH (cs := (gw (gJ.mk p1 p2) c d)) rfl rfl rfl rfl rfl rfl)<|?_
       refine gY 1 6 (by kernel_rfl) ?_ ?_
       ·refine id (Jyq Z (gv (v := (sv b)) rfl rfl rfl (Rb2 Z)) ⟨(Ic Mb0 (Ic Mb1 In0)), ?_⟩)
        refine gY 2 6 (by kernel_rfl) ?_ ?_
        ·refine id (Jy Z ?_)
         refine OpW.shift (Shift.nilTok1 96 8 (Sd ?_))
         have cz := s.mono e
         refine ga (T := fQ) (bytes := 96) (q := 0) rfl rfl rfl (Slr.nil fQ _) Mb0 rfl (SrcT.sl cz) ar rfl rfl rfl rfl rfl rfl rfl rfl (fun dF bh aL cA => ⟨_, .here, ⟨(Ic Mb1 (Ic Mb2 In0)), ?_⟩⟩)
         refine Ao 6 Z ?_
         have cB := (I.mono e).mono aL
         have cC := (J.mono e).mono aL
         have aQ : RowR fQ bh [(gw (gJ.mk p1 p2) c d)] [(gJ.mk p1 p2)] := RowR.cons ⟨c, d, rfl, cB, cC⟩ (RowR.nil)
         refine gk (T := fQ) (rows := [(gw (gJ.mk p1 p2) c d)]) (l := [(gJ.mk p1 p2)]) rfl rfl rfl aQ rfl rfl rfl rfl rfl rfl rfl rfl (fun dG => ⟨(Ic Mb2 (Ic Mb3 In0)), ?_⟩)
         refine Ao 7 Z ?_
         refine ga (T := fQ) (bytes := 96) (q := 0) rfl rfl rfl cA Mb1 rfl (SrcT.row Mb0 aQ rfl) au rfl rfl rfl rfl rfl rfl rfl rfl (fun aF dg dv cD => ⟨_, (.there .here), ⟨(Ic Mb2 (Ic Mb3 In0)), ?_⟩⟩)
         refine Aw.shift (Re0 (Sd ⟨(Ic Mb1 (Ic Mb2 In0)), ?_⟩))
         refine JF 8 1 Z ?_
         refine Ao 9 Z ?_
         refine So [(sv aF)] (fj (f6.mk p0.chans S p0.tick) a aF) Z (.there (.there (.there .here))) Z ⟨(Ic Mb1 (Ic Mb2 In0)), ?_⟩
         exact Ad<|Pu3<|Pu2<|Re3<|Sd<|⟨_, by exact R2, aF, S, rfl, rfl, H, cD⟩
        ·refine id (Jy Z ?_)
         have cE := I.mono e
         have cF := J.mono e
         have aR : RowR fQ U [(gw (gJ.mk p1 p2) c d)] [(gJ.mk p1 p2)] := RowR.cons ⟨c, d, rfl, cE, cF⟩ (RowR.nil)
         refine gk (T := fQ) (rows := [(gw (gJ.mk p1 p2) c d)]) (l := [(gJ.mk p1 p2)]) rfl rfl rfl aR rfl rfl rfl rfl rfl rfl rfl rfl (fun dH => ⟨(Ic Mb1 (Ic Mb2 In0)), ?_⟩)
         refine Ao 2 Z ?_
         refine OpW.shift (Shift.nilTok1 96 8 (Sd ?_))
         have cG := s.mono e
         refine ga (T := fQ) (bytes := 96) (q := 0) rfl rfl rfl (Slr.nil fQ _) Mb0 rfl (SrcT.sl cG) ar rfl rfl rfl rfl rfl rfl rfl rfl (fun dI dh bp cH => ⟨_, .here, ⟨(Ic Mb2 (Ic Mb3 In0)), ?_⟩⟩)
         refine Ao 7 Z ?_
         have cI := aR.mono bp
         refine ga (T := fQ) (bytes := 96) (q := 0) rfl rfl rfl cH Mb0 rfl (SrcT.row Mb1 cI rfl) au rfl rfl rfl rfl rfl rfl rfl rfl (fun az cX dj bx => ⟨_, .here, ⟨(Ic Mb2 (Ic Mb3 In0)), ?_⟩⟩)
         refine Aw.shift (Re1 (Sd ⟨(Ic Mb1 (Ic Mb2 In0)), ?_⟩))
         refine JF 8 1 Z ?_
         refine Ao 9 Z ?_
         refine So [(sv az)] (fj (f6.mk p0.chans S p0.tick) a az) Z (.there (.there (.there .here))) Z ⟨(Ic Mb1 (Ic Mb2 In0)), ?_⟩
         exact Ad<|Pu3<|Pu2<|Re3<|Sd<|⟨_, by exact R2, az, S, rfl, rfl, H, bx⟩
       ·refine id (Jy Z ?_)
        have bz := I.mono e
        have bA := J.mono e
        have aM : RowR fQ U [(gw (gJ.mk p1 p2) c d)] [(gJ.mk p1 p2)] := RowR.cons ⟨c, d, rfl, bz, bA⟩ (RowR.nil)
        refine gk (T := fQ) (rows := [(gw (gJ.mk p1 p2) c d)]) (l := [(gJ.mk p1 p2)]) rfl rfl rfl aM rfl rfl rfl rfl rfl rfl rfl rfl (fun dz => ⟨(Ic Mb1 (Ic Mb2 In0)), ?_⟩)
        refine gB 1 (by kernel_rfl) (Jyq Z (gv (v := (sv b)) rfl rfl rfl (Rb3 Z)) ⟨(Ic Mb1 (Ic Mb2 In0)), ?_⟩)
        refine Ao 2 Z ?_
        refine OpW.shift (Shift.nilTok1 96 8 (Sd ?_))
        have bB := s.mono e
        refine ga (T := fQ) (bytes := 96) (q := 0) rfl rfl rfl (Slr.nil fQ _) Mb0 rfl (SrcT.sl bB) ar rfl rfl rfl rfl rfl rfl rfl rfl (fun dA cY bn bC => ⟨_, .here, ⟨(Ic Mb2 (Ic Mb3 In0)), ?_⟩⟩)
        refine Ao 7 Z ?_
        have bD := aM.mono bn
        refine ga (T := fQ) (bytes := 96) (q := 0) rfl rfl rfl bC Mb0 rfl (SrcT.row Mb1 bD rfl) au rfl rfl rfl rfl rfl rfl rfl rfl (fun aA cZ dk bE => ⟨_, .here, ⟨(Ic Mb2 (Ic Mb3 In0)), ?_⟩⟩)
        refine Aw.shift (Re1 (Sd ⟨(Ic Mb1 (Ic Mb2 In0)), ?_⟩))
        refine JF 8 1 Z ?_
        refine Ao 9 Z ?_
        refine So [(sv aA)] (fj (f6.mk p0.chans S p0.tick) a aA) Z (.there (.there (.there .here))) Z ⟨(Ic Mb1 (Ic Mb2 In0)), ?_⟩
        exact Ad<|Pu3<|Pu2<|Re3<|Sd<|⟨_, by exact R2, aA, S, rfl, rfl, H, bE⟩
      rintro _ c0 _ bo ⟨w, B, rfl, rfl, H, cy⟩
      unfold zl at H
      refine fc<|fa<|EL 3 (fj (f6.mk p0.chans B p0.tick) a w) Z (Rb1 Z)<|?_
      refine ff rfl (Sa (fj (f6.mk p0.chans B p0.tick) a w) Z .here Z ?_)
      refine Ea Z<|Ea Z<|fb<|fx<|?_
      obtain ⟨V, W, X⟩ := jP H
      subst i o p
      refine ⟨(.inl rfl), [(.agg (fj (f6.mk p0.chans B p0.tick) a w).toArray), (sv fB), (.bool true)], ⟨(.agg (fj (f6.mk p0.chans B p0.tick) a w).toArray), _, rfl, ⟨_, 3, (fj (f6.mk p0.chans B p0.tick) a w), rfl, rfl, rfl, rfl, ⟨rfl, Rb0 Z⟩, rfl⟩, ⟨(sv fB), _, rfl, rfl, ⟨(.bool true), _, rfl, rfl, rfl⟩⟩⟩, ?_⟩
      refine Shift.nilTok1 67 6<|Re1<|Re1<|Re1<|?_
      have bF := (h.mono e).mono bo
      exact Sd ⟨a, w, fB, rfl, rfl, bF, cy, (Slr.nil fP _)⟩
end Go.Hx
