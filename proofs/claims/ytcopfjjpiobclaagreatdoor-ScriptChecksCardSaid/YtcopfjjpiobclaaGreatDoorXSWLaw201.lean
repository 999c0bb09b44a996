
import Derived.Test.YtcopfjjpiobclaaGreatDoorXSM
import Derived.Test.YtcopfjjpiobclaaGreatDoorXSWDraw
import Derived.Test.YtcopfjjpiobclaaGreatDoorXSWLaw20
namespace Go.Hx
open Go Go.Proofs
set_option linter.unusedSimpArgs false
set_option linter.unusedVariables false
set_option maxRecDepth 10000
set_option maxHeartbeats 1000000
theorem ajb (n : Nat) (p0 : W8) (o : SV) (p1 : Script) (t e : SV) (gD w : SV) (y0 : Script) (bv bw : Int) (H : acY p0 p1 = some (y0, bv, bw)) (K : Kp) (G : List Ent) (F : Slr Ty.u8 K (sv o) p0.list) (L : Slr Ty.i64 K (sv t) p1.cnfg.capacities) (I : Slr Ty.u64 K (sv e) p1.cnfg.starts) (p8 : Slr (Ty.sl Xf) K (sv gD) p1.ops) (z : Slr Ty.i64 K (sv w) p1.picks) :
  Fc Tryz.prog 19 #[(Vp n), (.agg (Xc p1 t e gD w).toArray)] K ((.blk n 55 (Xn p0 o)) :: G) (fun v K' G' => ∃ (mQ mR mS : SV) (mA : List (List Value)) (mT : SV), v = (.agg (Xc y0 mQ mR mS mT).toArray) ∧ (.blk n 55 (Xn (W8.mk p0.list bv bw) o)) :: (.row (sv mS) 51 1 mA.flatten) :: G = G' ∧ Slr Ty.i64 K' (sv mQ) y0.cnfg.capacities ∧ Slr Ty.u64 K' (sv mR) y0.cnfg.starts ∧ RowR (Ty.sl Xf) K' mA y0.ops ∧ Slr Ty.i64 K' (sv mT) y0.picks) := by
 refine XM Tryz.func19 Z Tryz.ntmps19 Tryz.results19 Z ?_
 unfold acY at H
 refine Xd<|W9<|?_
 refine Xh Z (X6 (cs := (Xc p1 t e gD w)) Z Z Z (fun aM => ?_))
 refine Xh Z (XP (cs := (Xc (Script.mk (Config.mk [] [] 0) [] []) Xo Xo Xo Xo)) Z Z Z Z (fun aN => ?_))
 refine Xa<|Xd<|W9<|EF 3 Z<|El (sv gD) Z (Rb1 Z)<|?_
 have oL : RowR (Ty.sl Xf) K [] [] := RowR.nil
 refine Ow.shift (Shift.nilRow 51 1 (Sd ?_))
 obtain ⟨f, Bl, H⟩ := bnd H
 refine Xh Z (Xv (T := (Ty.sl Xf)) (bytes := 24) Z Z Z Mb0 oL (SrcT.sl p8) Bl Z Z Z Z Z Z Z Z (fun c x g => ⟨_, .here, ?_⟩))
 refine EF 3 Z ?_
 refine Xh Z (So [(sv c)] (Xc (Script.mk p1.cnfg f p1.picks) t e c w) Z (.there (.there .here)) Z ?_)
 refine Xa ?_
 refine XD (fun bx K' G' => ∃ (iY iZ : Int) (aF : SV) (aC : ab3) (aJ : Int) (aG : SV) (aD : ac3) (gB : List (List Value)) (aH : SV) (aE : ab3), [(3, (Vp aM)), (4, (Vp aN))] = bx ∧ (.blk n 55 (Xn (W8.mk p0.list iY iZ) o)) :: (.blk aN 33 (Xc (Script.mk (Config.mk [] [] 0) [] []) Xo Xo Xo Xo)) :: (.blk aM 33 (Xc (Script.mk (Config.mk p1.cnfg.capacities aC aJ) aD aE) t aF aG aH)) :: (.row (sv aG) 51 1 gB.flatten) :: G = G' ∧ aah p0 p1 iY iZ aC aJ aD aE = some (y0, bv, bw) ∧ Slr Ty.u64 K' (sv aF) aC ∧ RowR (Ty.sl Xf) K' gB aD ∧ Slr Ty.i64 K' (sv aH) aE) ?_ ?_
 ·refine Xd<|W9<|Em Z<|?_
  obtain ⟨De, D, Bm, H⟩ := Yf H
  refine Ow.shift (Pu3 (Sd ?_))
  refine Xh Z (Ek Tryz.call21 Z (XU n p0 o 6 De D Bm _ _ F) ?_)
  rintro _ _ _ - ⟨rfl, rfl, rfl⟩
  refine Xa<|XA<|Xd<|W9<|Ec Z<|Ea Z<|Xa<|?_
  refine Xp Z ?_ ?_
  ·intro bz
   obtain ⟨bz, H⟩ := It bz H
   refine W9<|Em Z<|?_
   obtain ⟨gE, mU, Bn, H⟩ := Yf H
   refine Xh Z (Ek Tryz.call21 Z (XU n (W8.mk p0.list D p0.value) o 10 gE mU Bn _ _ F) ?_)
   rintro _ _ _ - ⟨rfl, rfl, rfl⟩
   refine EF 0 Z<|EF 2 Z<|?_
   refine Xh Z (So [(Vi gE)] (Xc (Script.mk (Config.mk p1.cnfg.capacities p1.cnfg.starts gE) f p1.picks) t e c w) Z (.there (.there (.there .here))) Z ?_)
   exact Xa<|Pu1<|Pu3<|Pu3<|Pu3<|Sd<|⟨_, by exact R2, mU, ((W8.mk p0.list D p0.value).value), e, p1.cnfg.starts, gE, c, f, x, w, p1.picks, Z, Z, H, I, g, z⟩
  ·intro bz
   obtain ⟨bz, H⟩ := If bz H
   refine Xd<|W9<|Ec Z<|Ea Z<|Xa<|?_
   refine Xp Z ?_ ?_
   ·intro bA
    obtain ⟨bA, H⟩ := It bA H
    refine W9<|EF 3 Z<|El (sv c) Z (Rb3 Z)<|?_
    have ke : RowR (Ty.sl Xf) K [[(sv Xo)]] [[]] := RowR.cons ⟨Xo, Z, (Slr.nil Xf _)⟩ (RowR.nil)
    refine Xh Z (Xx (T := (Ty.sl Xf)) (rows := [[(sv Xo)]]) (l := [[]]) Z Z Z ke Z Z Z Z Z Z Z Z (fun K6 => ?_))
    obtain ⟨mV, Bo, H⟩ := bnd H
    refine Xh Z (Xv (T := (Ty.sl Xf)) (bytes := 24) Z Z Z Mb2 g (SrcT.row Mb0 ke Z) Bo Z Z Z Z Z Z Z Z (fun i0 Bx oN => ⟨_, (.there (.there .here)), ?_⟩))
    refine Ow.shift (Re0 (Sd ?_))
    refine EF 3 Z ?_
    refine Xh Z (So [(sv i0)] (Xc (Script.mk p1.cnfg mV p1.picks) t e i0 w) Z (.there (.there (.there .here))) Z ?_)
    exact Xa<|Pu1<|Pu3<|Pu3<|Pu3<|Sd<|⟨_, by exact R2, D, p0.value, e, p1.cnfg.starts, p1.cnfg.threads, i0, mV, Bx, w, p1.picks, Z, Z, H, I, oN, z⟩
   ·intro bA
    obtain ⟨bA, H⟩ := If bA H
    refine Xd<|W9<|Ec Z<|Ea Z<|Xa<|?_
    refine Xp Z ?_ ?_
    ·intro bB
     obtain ⟨bB, H⟩ := It bB H
     refine W9<|EF 4 Z<|El (sv w) Z (Rb3 Z)<|?_
     refine Ow.shift (Shift.nilTok1 3 1 (Sd ?_))
     obtain ⟨Nv, Bp, H⟩ := bnd H
     refine Xh Z (Xj (T := Ty.i64) (bytes := 8) (q := 0) Z Z Z (Slr.nil Ty.i64 _) Mb0 Z (SrcT.sl z) Bp Z Z Z Z Z Z Z Z (fun K7 m0 gG rT => ⟨_, .here, ?_⟩))
     refine Em Z ?_
     obtain ⟨eg, mW, Bq, H⟩ := Yf H
     refine Ow.shift (Pu1 (Sd ?_))
     have rU := F.mono gG
     refine Xh Z (Ek Tryz.call38 Z (YV n (W8.mk p0.list D p0.value) o eg mW Bq _ _ rU) ?_)
     rintro _ _ _ - ⟨rfl, rfl, rfl⟩
     have kf : RowR Ty.i64 m0 [[(Vi eg)]] [eg] := RowR.cons Z (RowR.nil)
     refine Xh Z (Xx (T := Ty.i64) (rows := [[(Vi eg)]]) (l := [eg]) Z Z Z kf Z Z Z Z Z Z Z Z (fun K8 => ?_))
     obtain ⟨mX, Br, H⟩ := bnd H
     refine Xh Z (Xj (T := Ty.i64) (bytes := 8) (q := 0) Z Z Z rT Mb2 Z (SrcT.row Mb0 kf Z) Br Z Z Z Z Z Z Z Z (fun i1 Df kb rV => ⟨_, (.there (.there .here)), ?_⟩))
     refine Ow.shift (Re0 (Sd ?_))
     refine EF 4 Z ?_
     refine Xh Z (So [(sv i1)] (Xc (Script.mk p1.cnfg f mX) t e c i1) Z (.there (.there (.there (.there .here)))) Z ?_)
     refine Xa<|Pu2<|Pu4<|Pu4<|Pu3<|Re4<|?_
     have rW := (I.mono gG).mono kb
     have rX := (g.mono gG).mono kb
     exact Sd ⟨_, by exact R2, mW, ((W8.mk p0.list D p0.value).value), e, p1.cnfg.starts, p1.cnfg.threads, c, f, x, i1, mX, Z, Z, H, rW, rX, rV⟩
    ·intro bB
     obtain ⟨bB, H⟩ := If bB H
     refine Xd<|W9<|Ec Z<|Ea Z<|Xa<|?_
     refine Xp Z ?_ ?_
     ·intro bC
      obtain ⟨bC, H⟩ := It bC H
      refine Xd<|W9<|Em Z<|EF 3 Z<|El (sv c) Z (Rb3 Z)<|Eq Z (YL (T := (Ty.sl Xf)) Mb1 g Z Z Z)<|?_
      obtain ⟨b, N, Bs, H⟩ := Yf H
      refine Xh Z (Ek Tryz.call21 Z (XU n (W8.mk p0.list D p0.value) o (f.length : Int) b N Bs _ _ F) ?_)
      rintro _ _ _ - ⟨rfl, rfl, rfl⟩
      refine Ea Z<|Xa<|?_
      obtain ⟨Nw, X, H⟩ := bnd H
      obtain ⟨Nx, P, H⟩ := bnd H
      obtain ⟨p, r, s, O, H⟩ := YD H
      obtain ⟨a, j, k, J, H⟩ := YD H
      obtain ⟨i, B, H⟩ := bnd H
      obtain ⟨Ny, h, H⟩ := bnd H
      refine XH _ Z (Ic Mb2 In0)<|JF 0 3 Z<|Jm 2 Z<|JF 3 3 Z<|Jm 5 Z<|Jm 9 Z<|Jm 10 Z<|JF 11 0 Z<|?_
      refine Ye 1 4 12 (by kernel_rfl) ?_ ?_ ?_
      ·refine id (Jyq Z (Xe (v := (sv c)) Z Z Z (Rb3 Z)) ⟨(Ic Mb2 In0), ?_⟩)
       refine Xu 4 12 (by kernel_rfl) ?_ ?_
       ·refine id (Jyq Z (Xe (v := (sv c)) Z Z Z (Rb3 Z)) ⟨(Ic Mb2 In0), ?_⟩)
        refine Xu 6 12 (by kernel_rfl) ?_ ?_
        ·obtain ⟨IC, hD, p9⟩ := RowR.at g X
         obtain ⟨mB, rfl, iM⟩ := p9
         refine id (Jyq Z (XB (T := (Ty.sl Xf)) Mb1 g hD (Xm X).1 Z Z Z Z Z) ⟨(Ic Mb2 In0), ?_⟩)
         refine Xu 7 12 (by kernel_rfl) ?_ ?_
         ·refine id (Jyq Z (Xe (v := (sv mB)) Z Z Z (XI (T := (Ty.sl Xf)) Mb1 g hD Z Z)) ⟨(Ic Mb2 In0), ?_⟩)
          refine Xu 8 12 (by kernel_rfl) ?_ ?_
          ·refine id (Jy Z ?_)
           refine OpW.shift (Shift.nilTok1 70 7 (Sd ?_))
           refine Xj (T := Xf) (bytes := 88) (q := 0) Z Z Z (Slr.nil Xf _) Mb0 Z (SrcT.sl iM) P Z Z Z Z Z Z Z Z (fun K9 Dg bG rY => ⟨_, .here, ⟨(Ic Mb3 In0), ?_⟩⟩)
           refine Xk 12 (by kernel_rfl) (Jyq Z (X1 (m := 3) (cs := (Xl p1.cnfg t e)) Z Z Z Z ⟨Z, Rb4 Z⟩) ⟨(Ic Mb3 In0), ?_⟩)
           refine Ao 13 Z ?_
           refine OpW.shift (Pu1 (Sd ?_))
           have ld := F.mono bG
           have rZ := L.mono bG
           have le := I.mono bG
           refine Ek Tryz.call40 Z (XT n (W8.mk p0.list N ((W8.mk p0.list D p0.value).value)) o p1.cnfg t e p r s O _ _ ld rZ le) ?_
           rintro _ Dh _ bH ⟨By, Bz, rfl, rfl, r0, r1⟩
           refine ⟨(Ic Mb3 In0), ?_⟩
           refine Ao 14 Z ?_
           have r2 := ld.mono bH
           refine Ek Tryz.call39 Z (XL n (W8.mk p0.list r s) o p By Bz a j k J _ _ r2 r0 r1) ?_
           rintro _ Di _ eh ⟨i2, i3, Ks, rfl, rfl, r3, r4⟩
           refine ⟨(Ic Mb5 In0), ?_⟩
           refine Ao 15 Z ?_
           refine OpW.shift (Shift.settle (T := Ty.i64) (.there (.there .here)) r4 Z (fun m1 bI r5 => Sd ?_))
           have r6 := r3.mono bI
           have kg : RowR Xf m1 [(Xb a i2 i3)] [a] := RowR.cons ⟨i2, i3, Z, r6, r5⟩ (RowR.nil)
           refine Xx (T := Xf) (rows := [(Xb a i2 i3)]) (l := [a]) Z Z Z kg Z Z Z Z Z Z Z Z (fun La => ⟨(Ic Mb6 In0), ?_⟩)
           refine Ao 16 Z ?_
           have r8 := ((rY.mono bH).mono eh).mono bI
           refine Xj (T := Xf) (bytes := 88) (q := 0) Z Z Z r8 Mb4 Z (SrcT.row Mb0 kg Z) B Z Z Z Z Z Z Z Z (fun dr Dj gH r7 => ⟨_, (.there (.there (.there (.there .here)))), ⟨(Ic Mb6 In0), ?_⟩⟩)
           refine Aw.shift (Re0 (Sd ⟨(Ic Mb5 In0), ?_⟩))
           have fk := ((((g.mono bG).mono bH).mono eh).mono bI).mono gH
           obtain ⟨ID, hE, qa⟩ := RowR.at fk h
           obtain ⟨Lb, rfl, Hg⟩ := qa
           refine Xk 17 (by kernel_rfl) (Jyq Z (XB (T := (Ty.sl Xf)) Mb4 fk hE (Xm h).1 Z Z Z Z Z) ⟨(Ic Mb5 In0), ?_⟩)
           refine Ao 18 Z ?_
           refine Xr (T := (Ty.sl Xf)) (vs := [(sv dr)]) (r' := [(sv dr)]) (l' := (Xz f b i)) Z Z Z Z Z (.there (.there (.there (.there .here)))) fk hE Z Z Z (RowR.set b fk ⟨dr, Z, r7⟩) (fun oO => ⟨(Ic Mb5 In0), ?_⟩)
           have Gs := XG hE (v := [(sv dr)])
           refine Ad<|Pu4<|Pu6<|Pu6<|Pu3<|Re4<|Re4<|Re4<|?_
           have r9 := (((le.mono bH).mono eh).mono bI).mono gH
           have sa := ((((z.mono bG).mono bH).mono eh).mono bI).mono gH
           exact Sd ⟨_, by exact R2, j, k, e, p1.cnfg.starts, p1.cnfg.threads, c, (Xz f b i), (x.set b.toNat [(sv dr)]), w, p1.picks, Z, Z, H, r9, oO, sa⟩
          ·refine id (Jyq Z (X1 (m := 3) (cs := (Xl p1.cnfg t e)) Z Z Z Z ⟨Z, Rb3 Z⟩) ⟨(Ic Mb2 In0), ?_⟩)
           refine Ao 8 Z ?_
           refine OpW.shift (Shift.nilTok1 70 7 (Sd ?_))
           refine Xj (T := Xf) (bytes := 88) (q := 0) Z Z Z (Slr.nil Xf _) Mb0 Z (SrcT.sl iM) P Z Z Z Z Z Z Z Z (fun Lc Dk bJ sb => ⟨_, .here, ⟨(Ic Mb3 In0), ?_⟩⟩)
           refine Ao 13 Z ?_
           refine OpW.shift (Pu1 (Sd ?_))
           have lf := F.mono bJ
           have sc := L.mono bJ
           have lg := I.mono bJ
           refine Ek Tryz.call40 Z (XT n (W8.mk p0.list N ((W8.mk p0.list D p0.value).value)) o p1.cnfg t e p r s O _ _ lf sc lg) ?_
           rintro _ Dl _ bK ⟨BA, BB, rfl, rfl, sd, se⟩
           refine ⟨(Ic Mb3 In0), ?_⟩
           refine Ao 14 Z ?_
           have sf := lf.mono bK
           refine Ek Tryz.call39 Z (XL n (W8.mk p0.list r s) o p BA BB a j k J _ _ sf sd se) ?_
           rintro _ Dm _ ei ⟨i4, i5, Kt, rfl, rfl, sg, sh⟩
           refine ⟨(Ic Mb5 In0), ?_⟩
           refine Ao 15 Z ?_
           refine OpW.shift (Shift.settle (T := Ty.i64) (.there (.there .here)) sh Z (fun m2 bL si => Sd ?_))
           have sj := sg.mono bL
           have kh : RowR Xf m2 [(Xb a i4 i5)] [a] := RowR.cons ⟨i4, i5, Z, sj, si⟩ (RowR.nil)
           refine Xx (T := Xf) (rows := [(Xb a i4 i5)]) (l := [a]) Z Z Z kh Z Z Z Z Z Z Z Z (fun Ld => ⟨(Ic Mb6 In0), ?_⟩)
           refine Ao 16 Z ?_
           have sm := ((sb.mono bK).mono ei).mono bL
           refine Xj (T := Xf) (bytes := 88) (q := 0) Z Z Z sm Mb4 Z (SrcT.row Mb0 kh Z) B Z Z Z Z Z Z Z Z (fun ds Dn gI sk => ⟨_, (.there (.there (.there (.there .here)))), ⟨(Ic Mb6 In0), ?_⟩⟩)
           refine Aw.shift (Re0 (Sd ⟨(Ic Mb5 In0), ?_⟩))
           have fl := ((((g.mono bJ).mono bK).mono ei).mono bL).mono gI
           obtain ⟨IE, hF, qb⟩ := RowR.at fl h
           obtain ⟨Le, rfl, Hh⟩ := qb
           refine Xk 17 (by kernel_rfl) (Jyq Z (XB (T := (Ty.sl Xf)) Mb4 fl hF (Xm h).1 Z Z Z Z Z) ⟨(Ic Mb5 In0), ?_⟩)
           refine Ao 18 Z ?_
           refine Xr (T := (Ty.sl Xf)) (vs := [(sv ds)]) (r' := [(sv ds)]) (l' := (Xz f b i)) Z Z Z Z Z (.there (.there (.there (.there .here)))) fl hF Z Z Z (RowR.set b fl ⟨ds, Z, sk⟩) (fun oP => ⟨(Ic Mb5 In0), ?_⟩)
           have Gt := XG hF (v := [(sv ds)])
           refine Ad<|Pu4<|Pu6<|Pu6<|Pu3<|Re4<|Re4<|Re4<|?_
           have sn := (((lg.mono bK).mono ei).mono bL).mono gI
           have so := ((((z.mono bJ).mono bK).mono ei).mono bL).mono gI
           exact Sd ⟨_, by exact R2, j, k, e, p1.cnfg.starts, p1.cnfg.threads, c, (Xz f b i), (x.set b.toNat [(sv ds)]), w, p1.picks, Z, Z, H, sn, oP, so⟩
         ·refine id (Jyq Z (X1 (m := 3) (cs := (Xl p1.cnfg t e)) Z Z Z Z ⟨Z, Rb3 Z⟩) ⟨(Ic Mb2 In0), ?_⟩)
          refine Xk 7 (by kernel_rfl) (Jyq Z (Xe (v := (sv mB)) Z Z Z (XI (T := (Ty.sl Xf)) Mb1 g hD Z Z)) ⟨(Ic Mb2 In0), ?_⟩)
          refine Ao 8 Z ?_
          refine OpW.shift (Shift.nilTok1 70 7 (Sd ?_))
          refine Xj (T := Xf) (bytes := 88) (q := 0) Z Z Z (Slr.nil Xf _) Mb0 Z (SrcT.sl iM) P Z Z Z Z Z Z Z Z (fun Lf Do bM sp => ⟨_, .here, ⟨(Ic Mb3 In0), ?_⟩⟩)
          refine Ao 13 Z ?_
          refine OpW.shift (Pu1 (Sd ?_))
          have lh := F.mono bM
          have sq := L.mono bM
          have li := I.mono bM
          refine Ek Tryz.call40 Z (XT n (W8.mk p0.list N ((W8.mk p0.list D p0.value).value)) o p1.cnfg t e p r s O _ _ lh sq li) ?_
          rintro _ Dp _ bN ⟨BC, BD, rfl, rfl, sr, ss⟩
          refine ⟨(Ic Mb3 In0), ?_⟩
          refine Ao 14 Z ?_
          have st := lh.mono bN
          refine Ek Tryz.call39 Z (XL n (W8.mk p0.list r s) o p BC BD a j k J _ _ st sr ss) ?_
          rintro _ Dq _ ej ⟨i6, i7, Ku, rfl, rfl, su, sw⟩
          refine ⟨(Ic Mb5 In0), ?_⟩
          refine Ao 15 Z ?_
          refine OpW.shift (Shift.settle (T := Ty.i64) (.there (.there .here)) sw Z (fun m3 bO sx => Sd ?_))
          have sy := su.mono bO
          have ki : RowR Xf m3 [(Xb a i6 i7)] [a] := RowR.cons ⟨i6, i7, Z, sy, sx⟩ (RowR.nil)
          refine Xx (T := Xf) (rows := [(Xb a i6 i7)]) (l := [a]) Z Z Z ki Z Z Z Z Z Z Z Z (fun Lg => ⟨(Ic Mb6 In0), ?_⟩)
          refine Ao 16 Z ?_
          have sA := ((sp.mono bN).mono ej).mono bO
          refine Xj (T := Xf) (bytes := 88) (q := 0) Z Z Z sA Mb4 Z (SrcT.row Mb0 ki Z) B Z Z Z Z Z Z Z Z (fun dt Dr gJ sz => ⟨_, (.there (.there (.there (.there .here)))), ⟨(Ic Mb6 In0), ?_⟩⟩)
          refine Aw.shift (Re0 (Sd ⟨(Ic Mb5 In0), ?_⟩))
          have fm := ((((g.mono bM).mono bN).mono ej).mono bO).mono gJ
          obtain ⟨IF, hG, qc⟩ := RowR.at fm h
          obtain ⟨Lh, rfl, Hi⟩ := qc
          refine Xk 17 (by kernel_rfl) (Jyq Z (XB (T := (Ty.sl Xf)) Mb4 fm hG (Xm h).1 Z Z Z Z Z) ⟨(Ic Mb5 In0), ?_⟩)
          refine Ao 18 Z ?_
          refine Xr (T := (Ty.sl Xf)) (vs := [(sv dt)]) (r' := [(sv dt)]) (l' := (Xz f b i)) Z Z Z Z Z (.there (.there (.there (.there .here)))) fm hG Z Z Z (RowR.set b fm ⟨dt, Z, sz⟩) (fun oQ => ⟨(Ic Mb5 In0), ?_⟩)
          have Gu := XG hG (v := [(sv dt)])
          refine Ad<|Pu4<|Pu6<|Pu6<|Pu3<|Re4<|Re4<|Re4<|?_
          have sB := (((li.mono bN).mono ej).mono bO).mono gJ
          have sC := ((((z.mono bM).mono bN).mono ej).mono bO).mono gJ
          exact Sd ⟨_, by exact R2, j, k, e, p1.cnfg.starts, p1.cnfg.threads, c, (Xz f b i), (x.set b.toNat [(sv dt)]), w, p1.picks, Z, Z, H, sB, oQ, sC⟩
        ·refine id (Jyq Z (X1 (m := 3) (cs := (Xl p1.cnfg t e)) Z Z Z Z ⟨Z, Rb3 Z⟩) ⟨(Ic Mb2 In0), ?_⟩)
         obtain ⟨IG, k5, qd⟩ := RowR.at g X
         obtain ⟨BE, rfl, sD⟩ := qd
         refine Xk 6 (by kernel_rfl) (Jyq Z (XB (T := (Ty.sl Xf)) Mb1 g k5 (Xm X).1 Z Z Z Z Z) ⟨(Ic Mb2 In0), ?_⟩)
         refine Xk 7 (by kernel_rfl) (Jyq Z (Xe (v := (sv BE)) Z Z Z (XI (T := (Ty.sl Xf)) Mb1 g k5 Z Z)) ⟨(Ic Mb2 In0), ?_⟩)
         refine Ao 8 Z ?_
         refine OpW.shift (Shift.nilTok1 70 7 (Sd ?_))
         refine Xj (T := Xf) (bytes := 88) (q := 0) Z Z Z (Slr.nil Xf _) Mb0 Z (SrcT.sl sD) P Z Z Z Z Z Z Z Z (fun Li Ds bP sE => ⟨_, .here, ⟨(Ic Mb3 In0), ?_⟩⟩)
         refine Ao 13 Z ?_
         refine OpW.shift (Pu1 (Sd ?_))
         have lj := F.mono bP
         have sF := L.mono bP
         have lk := I.mono bP
         refine Ek Tryz.call40 Z (XT n (W8.mk p0.list N ((W8.mk p0.list D p0.value).value)) o p1.cnfg t e p r s O _ _ lj sF lk) ?_
         rintro _ Dt _ bQ ⟨BF, BG, rfl, rfl, sG, sH⟩
         refine ⟨(Ic Mb3 In0), ?_⟩
         refine Ao 14 Z ?_
         have sI := lj.mono bQ
         refine Ek Tryz.call39 Z (XL n (W8.mk p0.list r s) o p BF BG a j k J _ _ sI sG sH) ?_
         rintro _ Du _ ek ⟨i8, i9, Kv, rfl, rfl, sJ, sK⟩
         refine ⟨(Ic Mb5 In0), ?_⟩
         refine Ao 15 Z ?_
         refine OpW.shift (Shift.settle (T := Ty.i64) (.there (.there .here)) sK Z (fun m4 bR sL => Sd ?_))
         have sM := sJ.mono bR
         have kj : RowR Xf m4 [(Xb a i8 i9)] [a] := RowR.cons ⟨i8, i9, Z, sM, sL⟩ (RowR.nil)
         refine Xx (T := Xf) (rows := [(Xb a i8 i9)]) (l := [a]) Z Z Z kj Z Z Z Z Z Z Z Z (fun Lj => ⟨(Ic Mb6 In0), ?_⟩)
         refine Ao 16 Z ?_
         have sO := ((sE.mono bQ).mono ek).mono bR
         refine Xj (T := Xf) (bytes := 88) (q := 0) Z Z Z sO Mb4 Z (SrcT.row Mb0 kj Z) B Z Z Z Z Z Z Z Z (fun du Dv gK sN => ⟨_, (.there (.there (.there (.there .here)))), ⟨(Ic Mb6 In0), ?_⟩⟩)
         refine Aw.shift (Re0 (Sd ⟨(Ic Mb5 In0), ?_⟩))
         have fn := ((((g.mono bP).mono bQ).mono ek).mono bR).mono gK
         obtain ⟨IH, hH, qe⟩ := RowR.at fn h
         obtain ⟨Lk, rfl, Hj⟩ := qe
         refine Xk 17 (by kernel_rfl) (Jyq Z (XB (T := (Ty.sl Xf)) Mb4 fn hH (Xm h).1 Z Z Z Z Z) ⟨(Ic Mb5 In0), ?_⟩)
         refine Ao 18 Z ?_
         refine Xr (T := (Ty.sl Xf)) (vs := [(sv du)]) (r' := [(sv du)]) (l' := (Xz f b i)) Z Z Z Z Z (.there (.there (.there (.there .here)))) fn hH Z Z Z (RowR.set b fn ⟨du, Z, sN⟩) (fun oR => ⟨(Ic Mb5 In0), ?_⟩)
         have Gv := XG hH (v := [(sv du)])
         refine Ad<|Pu4<|Pu6<|Pu6<|Pu3<|Re4<|Re4<|Re4<|?_
         have sP := (((lk.mono bQ).mono ek).mono bR).mono gK
         have sQ := ((((z.mono bP).mono bQ).mono ek).mono bR).mono gK
         exact Sd ⟨_, by exact R2, j, k, e, p1.cnfg.starts, p1.cnfg.threads, c, (Xz f b i), (x.set b.toNat [(sv du)]), w, p1.picks, Z, Z, H, sP, oR, sQ⟩
       ·refine id (Jyq Z (X1 (m := 3) (cs := (Xl p1.cnfg t e)) Z Z Z Z ⟨Z, Rb3 Z⟩) ⟨(Ic Mb2 In0), ?_⟩)
        refine Xk 4 (by kernel_rfl) (Jyq Z (Xe (v := (sv c)) Z Z Z (Rb3 Z)) ⟨(Ic Mb2 In0), ?_⟩)
        obtain ⟨II, k6, qf⟩ := RowR.at g X
        obtain ⟨BH, rfl, sR⟩ := qf
        refine Xk 6 (by kernel_rfl) (Jyq Z (XB (T := (Ty.sl Xf)) Mb1 g k6 (Xm X).1 Z Z Z Z Z) ⟨(Ic Mb2 In0), ?_⟩)
        refine Xk 7 (by kernel_rfl) (Jyq Z (Xe (v := (sv BH)) Z Z Z (XI (T := (Ty.sl Xf)) Mb1 g k6 Z Z)) ⟨(Ic Mb2 In0), ?_⟩)
        refine Ao 8 Z ?_
        refine OpW.shift (Shift.nilTok1 70 7 (Sd ?_))
        refine Xj (T := Xf) (bytes := 88) (q := 0) Z Z Z (Slr.nil Xf _) Mb0 Z (SrcT.sl sR) P Z Z Z Z Z Z Z Z (fun Ll Dw bS sS => ⟨_, .here, ⟨(Ic Mb3 In0), ?_⟩⟩)
        refine Ao 13 Z ?_
        refine OpW.shift (Pu1 (Sd ?_))
        have ll := F.mono bS
        have sT := L.mono bS
        have lm := I.mono bS
        refine Ek Tryz.call40 Z (XT n (W8.mk p0.list N ((W8.mk p0.list D p0.value).value)) o p1.cnfg t e p r s O _ _ ll sT lm) ?_
        rintro _ Dx _ bT ⟨BI, BJ, rfl, rfl, sU, sV⟩
        refine ⟨(Ic Mb3 In0), ?_⟩
        refine Ao 14 Z ?_
        have sW := ll.mono bT
        refine Ek Tryz.call39 Z (XL n (W8.mk p0.list r s) o p BI BJ a j k J _ _ sW sU sV) ?_
        rintro _ Dy _ el ⟨ja, jb, Kw, rfl, rfl, sX, sY⟩
        refine ⟨(Ic Mb5 In0), ?_⟩
        refine Ao 15 Z ?_
        refine OpW.shift (Shift.settle (T := Ty.i64) (.there (.there .here)) sY Z (fun m5 bU sZ => Sd ?_))
        have s0 := sX.mono bU
        have kk : RowR Xf m5 [(Xb a ja jb)] [a] := RowR.cons ⟨ja, jb, Z, s0, sZ⟩ (RowR.nil)
        refine Xx (T := Xf) (rows := [(Xb a ja jb)]) (l := [a]) Z Z Z kk Z Z Z Z Z Z Z Z (fun Lm => ⟨(Ic Mb6 In0), ?_⟩)
        refine Ao 16 Z ?_
        have s2 := ((sS.mono bT).mono el).mono bU
        refine Xj (T := Xf) (bytes := 88) (q := 0) Z Z Z s2 Mb4 Z (SrcT.row Mb0 kk Z) B Z Z Z Z Z Z Z Z (fun dv Dz gL s1 => ⟨_, (.there (.there (.there (.there .here)))), ⟨(Ic Mb6 In0), ?_⟩⟩)
        refine Aw.shift (Re0 (Sd ⟨(Ic Mb5 In0), ?_⟩))
        have fo := ((((g.mono bS).mono bT).mono el).mono bU).mono gL
        obtain ⟨IJ, hI, qg⟩ := RowR.at fo h
        obtain ⟨Ln, rfl, Hk⟩ := qg
        refine Xk 17 (by kernel_rfl) (Jyq Z (XB (T := (Ty.sl Xf)) Mb4 fo hI (Xm h).1 Z Z Z Z Z) ⟨(Ic Mb5 In0), ?_⟩)
        refine Ao 18 Z ?_
        refine Xr (T := (Ty.sl Xf)) (vs := [(sv dv)]) (r' := [(sv dv)]) (l' := (Xz f b i)) Z Z Z Z Z (.there (.there (.there (.there .here)))) fo hI Z Z Z (RowR.set b fo ⟨dv, Z, s1⟩) (fun oS => ⟨(Ic Mb5 In0), ?_⟩)
        have Gw := XG hI (v := [(sv dv)])
        refine Ad<|Pu4<|Pu6<|Pu6<|Pu3<|Re4<|Re4<|Re4<|?_
        have s3 := (((lm.mono bT).mono el).mono bU).mono gL
        have s4 := ((((z.mono bS).mono bT).mono el).mono bU).mono gL
        exact Sd ⟨_, by exact R2, j, k, e, p1.cnfg.starts, p1.cnfg.threads, c, (Xz f b i), (x.set b.toNat [(sv dv)]), w, p1.picks, Z, Z, H, s3, oS, s4⟩
      ·refine id (Jyq Z (Xe (v := (sv c)) Z Z Z (Rb3 Z)) ⟨(Ic Mb2 In0), ?_⟩)
       refine Ye 1 6 12 (by kernel_rfl) ?_ ?_ ?_
       ·refine id (Jyq Z (Xe (v := (sv c)) Z Z Z (Rb3 Z)) ⟨(Ic Mb2 In0), ?_⟩)
        refine Xu 6 12 (by kernel_rfl) ?_ ?_
        ·obtain ⟨IK, hJ, qh⟩ := RowR.at g X
         obtain ⟨mC, rfl, iN⟩ := qh
         refine id (Jyq Z (XB (T := (Ty.sl Xf)) Mb1 g hJ (Xm X).1 Z Z Z Z Z) ⟨(Ic Mb2 In0), ?_⟩)
         refine Xu 7 12 (by kernel_rfl) ?_ ?_
         ·refine id (Jyq Z (Xe (v := (sv mC)) Z Z Z (XI (T := (Ty.sl Xf)) Mb1 g hJ Z Z)) ⟨(Ic Mb2 In0), ?_⟩)
          refine Xu 8 12 (by kernel_rfl) ?_ ?_
          ·refine id (Jy Z ?_)
           refine OpW.shift (Shift.nilTok1 70 7 (Sd ?_))
           refine Xj (T := Xf) (bytes := 88) (q := 0) Z Z Z (Slr.nil Xf _) Mb0 Z (SrcT.sl iN) P Z Z Z Z Z Z Z Z (fun Lo DA bV s5 => ⟨_, .here, ⟨(Ic Mb3 In0), ?_⟩⟩)
           refine Xk 12 (by kernel_rfl) (Jyq Z (X1 (m := 3) (cs := (Xl p1.cnfg t e)) Z Z Z Z ⟨Z, Rb4 Z⟩) ⟨(Ic Mb3 In0), ?_⟩)
           refine Ao 13 Z ?_
           refine OpW.shift (Pu1 (Sd ?_))
           have ln := F.mono bV
           have s6 := L.mono bV
           have lo := I.mono bV
           refine Ek Tryz.call40 Z (XT n (W8.mk p0.list N ((W8.mk p0.list D p0.value).value)) o p1.cnfg t e p r s O _ _ ln s6 lo) ?_
           rintro _ DB _ bW ⟨BK, BL, rfl, rfl, s7, s8⟩
           refine ⟨(Ic Mb3 In0), ?_⟩
           refine Ao 14 Z ?_
           have s9 := ln.mono bW
           refine Ek Tryz.call39 Z (XL n (W8.mk p0.list r s) o p BK BL a j k J _ _ s9 s7 s8) ?_
           rintro _ DC _ em ⟨jc, jd, Kx, rfl, rfl, ta, tb⟩
           refine ⟨(Ic Mb5 In0), ?_⟩
           refine Ao 15 Z ?_
           refine OpW.shift (Shift.settle (T := Ty.i64) (.there (.there .here)) tb Z (fun m6 bX tc => Sd ?_))
           have td := ta.mono bX
           have kl : RowR Xf m6 [(Xb a jc jd)] [a] := RowR.cons ⟨jc, jd, Z, td, tc⟩ (RowR.nil)
           refine Xx (T := Xf) (rows := [(Xb a jc jd)]) (l := [a]) Z Z Z kl Z Z Z Z Z Z Z Z (fun Lp => ⟨(Ic Mb6 In0), ?_⟩)
           refine Ao 16 Z ?_
           have tf := ((s5.mono bW).mono em).mono bX
           refine Xj (T := Xf) (bytes := 88) (q := 0) Z Z Z tf Mb4 Z (SrcT.row Mb0 kl Z) B Z Z Z Z Z Z Z Z (fun dw DD gM te => ⟨_, (.there (.there (.there (.there .here)))), ⟨(Ic Mb6 In0), ?_⟩⟩)
           refine Aw.shift (Re0 (Sd ⟨(Ic Mb5 In0), ?_⟩))
           have fp := ((((g.mono bV).mono bW).mono em).mono bX).mono gM
           obtain ⟨IL, hK, qi⟩ := RowR.at fp h
           obtain ⟨Lq, rfl, Hl⟩ := qi
           refine Xk 17 (by kernel_rfl) (Jyq Z (XB (T := (Ty.sl Xf)) Mb4 fp hK (Xm h).1 Z Z Z Z Z) ⟨(Ic Mb5 In0), ?_⟩)
           refine Ao 18 Z ?_
           refine Xr (T := (Ty.sl Xf)) (vs := [(sv dw)]) (r' := [(sv dw)]) (l' := (Xz f b i)) Z Z Z Z Z (.there (.there (.there (.there .here)))) fp hK Z Z Z (RowR.set b fp ⟨dw, Z, te⟩) (fun oT => ⟨(Ic Mb5 In0), ?_⟩)
           have Gx := XG hK (v := [(sv dw)])
           refine Ad<|Pu4<|Pu6<|Pu6<|Pu3<|Re4<|Re4<|Re4<|?_
           have tg := (((lo.mono bW).mono em).mono bX).mono gM
           have th := ((((z.mono bV).mono bW).mono em).mono bX).mono gM
           exact Sd ⟨_, by exact R2, j, k, e, p1.cnfg.starts, p1.cnfg.threads, c, (Xz f b i), (x.set b.toNat [(sv dw)]), w, p1.picks, Z, Z, H, tg, oT, th⟩
          ·refine id (Jyq Z (X1 (m := 3) (cs := (Xl p1.cnfg t e)) Z Z Z Z ⟨Z, Rb3 Z⟩) ⟨(Ic Mb2 In0), ?_⟩)
           refine Ao 8 Z ?_
           refine OpW.shift (Shift.nilTok1 70 7 (Sd ?_))
           refine Xj (T := Xf) (bytes := 88) (q := 0) Z Z Z (Slr.nil Xf _) Mb0 Z (SrcT.sl iN) P Z Z Z Z Z Z Z Z (fun Lr DE bY ti => ⟨_, .here, ⟨(Ic Mb3 In0), ?_⟩⟩)
           refine Ao 13 Z ?_
           refine OpW.shift (Pu1 (Sd ?_))
           have lp := F.mono bY
           have tj := L.mono bY
           have lq := I.mono bY
           refine Ek Tryz.call40 Z (XT n (W8.mk p0.list N ((W8.mk p0.list D p0.value).value)) o p1.cnfg t e p r s O _ _ lp tj lq) ?_
           rintro _ DF _ bZ ⟨BM, BN, rfl, rfl, tk, tl⟩
           refine ⟨(Ic Mb3 In0), ?_⟩
           refine Ao 14 Z ?_
           have tm := lp.mono bZ
           refine Ek Tryz.call39 Z (XL n (W8.mk p0.list r s) o p BM BN a j k J _ _ tm tk tl) ?_
           rintro _ DG _ en ⟨je, jf, Ky, rfl, rfl, tn, to⟩
           refine ⟨(Ic Mb5 In0), ?_⟩
           refine Ao 15 Z ?_
           refine OpW.shift (Shift.settle (T := Ty.i64) (.there (.there .here)) to Z (fun m7 b0 tp => Sd ?_))
           have tq := tn.mono b0
           have km : RowR Xf m7 [(Xb a je jf)] [a] := RowR.cons ⟨je, jf, Z, tq, tp⟩ (RowR.nil)
           refine Xx (T := Xf) (rows := [(Xb a je jf)]) (l := [a]) Z Z Z km Z Z Z Z Z Z Z Z (fun Ls => ⟨(Ic Mb6 In0), ?_⟩)
           refine Ao 16 Z ?_
           have ts := ((ti.mono bZ).mono en).mono b0
           refine Xj (T := Xf) (bytes := 88) (q := 0) Z Z Z ts Mb4 Z (SrcT.row Mb0 km Z) B Z Z Z Z Z Z Z Z (fun dx DH gN tr => ⟨_, (.there (.there (.there (.there .here)))), ⟨(Ic Mb6 In0), ?_⟩⟩)
           refine Aw.shift (Re0 (Sd ⟨(Ic Mb5 In0), ?_⟩))
           have fq := ((((g.mono bY).mono bZ).mono en).mono b0).mono gN
           obtain ⟨IM, hL, qj⟩ := RowR.at fq h
           obtain ⟨Lt, rfl, Hm⟩ := qj
           refine Xk 17 (by kernel_rfl) (Jyq Z (XB (T := (Ty.sl Xf)) Mb4 fq hL (Xm h).1 Z Z Z Z Z) ⟨(Ic Mb5 In0), ?_⟩)
           refine Ao 18 Z ?_
           refine Xr (T := (Ty.sl Xf)) (vs := [(sv dx)]) (r' := [(sv dx)]) (l' := (Xz f b i)) Z Z Z Z Z (.there (.there (.there (.there .here)))) fq hL Z Z Z (RowR.set b fq ⟨dx, Z, tr⟩) (fun oU => ⟨(Ic Mb5 In0), ?_⟩)
           have Gy := XG hL (v := [(sv dx)])
           refine Ad<|Pu4<|Pu6<|Pu6<|Pu3<|Re4<|Re4<|Re4<|?_
           have tt := (((lq.mono bZ).mono en).mono b0).mono gN
           have tu := ((((z.mono bY).mono bZ).mono en).mono b0).mono gN
           exact Sd ⟨_, by exact R2, j, k, e, p1.cnfg.starts, p1.cnfg.threads, c, (Xz f b i), (x.set b.toNat [(sv dx)]), w, p1.picks, Z, Z, H, tt, oU, tu⟩
         ·refine id (Jyq Z (X1 (m := 3) (cs := (Xl p1.cnfg t e)) Z Z Z Z ⟨Z, Rb3 Z⟩) ⟨(Ic Mb2 In0), ?_⟩)
          refine Xk 7 (by kernel_rfl) (Jyq Z (Xe (v := (sv mC)) Z Z Z (XI (T := (Ty.sl Xf)) Mb1 g hJ Z Z)) ⟨(Ic Mb2 In0), ?_⟩)
          refine Ao 8 Z ?_
          refine OpW.shift (Shift.nilTok1 70 7 (Sd ?_))
          refine Xj (T := Xf) (bytes := 88) (q := 0) Z Z Z (Slr.nil Xf _) Mb0 Z (SrcT.sl iN) P Z Z Z Z Z Z Z Z (fun Lu DI b1 tv => ⟨_, .here, ⟨(Ic Mb3 In0), ?_⟩⟩)
          refine Ao 13 Z ?_
          refine OpW.shift (Pu1 (Sd ?_))
          have lr := F.mono b1
          have tw := L.mono b1
          have ls := I.mono b1
          refine Ek Tryz.call40 Z (XT n (W8.mk p0.list N ((W8.mk p0.list D p0.value).value)) o p1.cnfg t e p r s O _ _ lr tw ls) ?_
          rintro _ DJ _ b2 ⟨BO, BP, rfl, rfl, tx, ty⟩
          refine ⟨(Ic Mb3 In0), ?_⟩
          refine Ao 14 Z ?_
          have tz := lr.mono b2
          refine Ek Tryz.call39 Z (XL n (W8.mk p0.list r s) o p BO BP a j k J _ _ tz tx ty) ?_
          rintro _ DK _ eo ⟨jg, jh, Kz, rfl, rfl, tA, tB⟩
          refine ⟨(Ic Mb5 In0), ?_⟩
          refine Ao 15 Z ?_
          refine OpW.shift (Shift.settle (T := Ty.i64) (.there (.there .here)) tB Z (fun m8 b3 tC => Sd ?_))
          have tD := tA.mono b3
          have kn : RowR Xf m8 [(Xb a jg jh)] [a] := RowR.cons ⟨jg, jh, Z, tD, tC⟩ (RowR.nil)
          refine Xx (T := Xf) (rows := [(Xb a jg jh)]) (l := [a]) Z Z Z kn Z Z Z Z Z Z Z Z (fun Lv => ⟨(Ic Mb6 In0), ?_⟩)
          refine Ao 16 Z ?_
          have tF := ((tv.mono b2).mono eo).mono b3
          refine Xj (T := Xf) (bytes := 88) (q := 0) Z Z Z tF Mb4 Z (SrcT.row Mb0 kn Z) B Z Z Z Z Z Z Z Z (fun dy DL gO tE => ⟨_, (.there (.there (.there (.there .here)))), ⟨(Ic Mb6 In0), ?_⟩⟩)
          refine Aw.shift (Re0 (Sd ⟨(Ic Mb5 In0), ?_⟩))
          have fr := ((((g.mono b1).mono b2).mono eo).mono b3).mono gO
          obtain ⟨IN, hM, qk⟩ := RowR.at fr h
          obtain ⟨Lw, rfl, Hn⟩ := qk
          refine Xk 17 (by kernel_rfl) (Jyq Z (XB (T := (Ty.sl Xf)) Mb4 fr hM (Xm h).1 Z Z Z Z Z) ⟨(Ic Mb5 In0), ?_⟩)
          refine Ao 18 Z ?_
          refine Xr (T := (Ty.sl Xf)) (vs := [(sv dy)]) (r' := [(sv dy)]) (l' := (Xz f b i)) Z Z Z Z Z (.there (.there (.there (.there .here)))) fr hM Z Z Z (RowR.set b fr ⟨dy, Z, tE⟩) (fun oV => ⟨(Ic Mb5 In0), ?_⟩)
          have Gz := XG hM (v := [(sv dy)])
          refine Ad<|Pu4<|Pu6<|Pu6<|Pu3<|Re4<|Re4<|Re4<|?_
          have tG := (((ls.mono b2).mono eo).mono b3).mono gO
          have tH := ((((z.mono b1).mono b2).mono eo).mono b3).mono gO
          exact Sd ⟨_, by exact R2, j, k, e, p1.cnfg.starts, p1.cnfg.threads, c, (Xz f b i), (x.set b.toNat [(sv dy)]), w, p1.picks, Z, Z, H, tG, oV, tH⟩
        ·refine id (Jyq Z (X1 (m := 3) (cs := (Xl p1.cnfg t e)) Z Z Z Z ⟨Z, Rb3 Z⟩) ⟨(Ic Mb2 In0), ?_⟩)
         obtain ⟨IP, k7, ql⟩ := RowR.at g X
         obtain ⟨BQ, rfl, tI⟩ := ql
         refine Xk 6 (by kernel_rfl) (Jyq Z (XB (T := (Ty.sl Xf)) Mb1 g k7 (Xm X).1 Z Z Z Z Z) ⟨(Ic Mb2 In0), ?_⟩)
         refine Xk 7 (by kernel_rfl) (Jyq Z (Xe (v := (sv BQ)) Z Z Z (XI (T := (Ty.sl Xf)) Mb1 g k7 Z Z)) ⟨(Ic Mb2 In0), ?_⟩)
         refine Ao 8 Z ?_
         refine OpW.shift (Shift.nilTok1 70 7 (Sd ?_))
         refine Xj (T := Xf) (bytes := 88) (q := 0) Z Z Z (Slr.nil Xf _) Mb0 Z (SrcT.sl tI) P Z Z Z Z Z Z Z Z (fun Lx DM b4 tJ => ⟨_, .here, ⟨(Ic Mb3 In0), ?_⟩⟩)
         refine Ao 13 Z ?_
         refine OpW.shift (Pu1 (Sd ?_))
         have lt := F.mono b4
         have tK := L.mono b4
         have lu := I.mono b4
         refine Ek Tryz.call40 Z (XT n (W8.mk p0.list N ((W8.mk p0.list D p0.value).value)) o p1.cnfg t e p r s O _ _ lt tK lu) ?_
         rintro _ DN _ b5 ⟨BR, BS, rfl, rfl, tL, tM⟩
         refine ⟨(Ic Mb3 In0), ?_⟩
         refine Ao 14 Z ?_
         have tN := lt.mono b5
         refine Ek Tryz.call39 Z (XL n (W8.mk p0.list r s) o p BR BS a j k J _ _ tN tL tM) ?_
         rintro _ DO _ ep ⟨ji, jj, KA, rfl, rfl, tO, tP⟩
         refine ⟨(Ic Mb5 In0), ?_⟩
         refine Ao 15 Z ?_
         refine OpW.shift (Shift.settle (T := Ty.i64) (.there (.there .here)) tP Z (fun m9 b6 tQ => Sd ?_))
         have tR := tO.mono b6
         have ko : RowR Xf m9 [(Xb a ji jj)] [a] := RowR.cons ⟨ji, jj, Z, tR, tQ⟩ (RowR.nil)
         refine Xx (T := Xf) (rows := [(Xb a ji jj)]) (l := [a]) Z Z Z ko Z Z Z Z Z Z Z Z (fun Ly => ⟨(Ic Mb6 In0), ?_⟩)
         refine Ao 16 Z ?_
         have tT := ((tJ.mono b5).mono ep).mono b6
         refine Xj (T := Xf) (bytes := 88) (q := 0) Z Z Z tT Mb4 Z (SrcT.row Mb0 ko Z) B Z Z Z Z Z Z Z Z (fun dz DP gP tS => ⟨_, (.there (.there (.there (.there .here)))), ⟨(Ic Mb6 In0), ?_⟩⟩)
         refine Aw.shift (Re0 (Sd ⟨(Ic Mb5 In0), ?_⟩))
         have fs := ((((g.mono b4).mono b5).mono ep).mono b6).mono gP
         obtain ⟨IQ, hN, qm⟩ := RowR.at fs h
         obtain ⟨Lz, rfl, Ho⟩ := qm
         refine Xk 17 (by kernel_rfl) (Jyq Z (XB (T := (Ty.sl Xf)) Mb4 fs hN (Xm h).1 Z Z Z Z Z) ⟨(Ic Mb5 In0), ?_⟩)
         refine Ao 18 Z ?_
         refine Xr (T := (Ty.sl Xf)) (vs := [(sv dz)]) (r' := [(sv dz)]) (l' := (Xz f b i)) Z Z Z Z Z (.there (.there (.there (.there .here)))) fs hN Z Z Z (RowR.set b fs ⟨dz, Z, tS⟩) (fun oW => ⟨(Ic Mb5 In0), ?_⟩)
         have GA := XG hN (v := [(sv dz)])
         refine Ad<|Pu4<|Pu6<|Pu6<|Pu3<|Re4<|Re4<|Re4<|?_
         have tU := (((lu.mono b5).mono ep).mono b6).mono gP
         have tV := ((((z.mono b4).mono b5).mono ep).mono b6).mono gP
         exact Sd ⟨_, by exact R2, j, k, e, p1.cnfg.starts, p1.cnfg.threads, c, (Xz f b i), (x.set b.toNat [(sv dz)]), w, p1.picks, Z, Z, H, tU, oW, tV⟩
       ·obtain ⟨IR, aP, qn⟩ := RowR.at g X
        obtain ⟨dA, rfl, ar⟩ := qn
        refine id (Jyq Z (XB (T := (Ty.sl Xf)) Mb1 g aP (Xm X).1 Z Z Z Z Z) ⟨(Ic Mb2 In0), ?_⟩)
        refine Ye 1 7 12 (by kernel_rfl) ?_ ?_ ?_
        ·refine id (Jyq Z (Xe (v := (sv c)) Z Z Z (Rb3 Z)) ⟨(Ic Mb2 In0), ?_⟩)
         refine Xu 7 12 (by kernel_rfl) ?_ ?_
         ·refine id (Jyq Z (Xe (v := (sv dA)) Z Z Z (XI (T := (Ty.sl Xf)) Mb1 g aP Z Z)) ⟨(Ic Mb2 In0), ?_⟩)
          refine Xu 8 12 (by kernel_rfl) ?_ ?_
          ·refine id (Jy Z ?_)
           refine OpW.shift (Shift.nilTok1 70 7 (Sd ?_))
           refine Xj (T := Xf) (bytes := 88) (q := 0) Z Z Z (Slr.nil Xf _) Mb0 Z (SrcT.sl ar) P Z Z Z Z Z Z Z Z (fun LA DQ b7 tW => ⟨_, .here, ⟨(Ic Mb3 In0), ?_⟩⟩)
           refine Xk 12 (by kernel_rfl) (Jyq Z (X1 (m := 3) (cs := (Xl p1.cnfg t e)) Z Z Z Z ⟨Z, Rb4 Z⟩) ⟨(Ic Mb3 In0), ?_⟩)
           refine Ao 13 Z ?_
           refine OpW.shift (Pu1 (Sd ?_))
           have lv := F.mono b7
           have tX := L.mono b7
           have lw := I.mono b7
           refine Ek Tryz.call40 Z (XT n (W8.mk p0.list N ((W8.mk p0.list D p0.value).value)) o p1.cnfg t e p r s O _ _ lv tX lw) ?_
           rintro _ DR _ b8 ⟨BT, BU, rfl, rfl, tY, tZ⟩
           refine ⟨(Ic Mb3 In0), ?_⟩
           refine Ao 14 Z ?_
           have t0 := lv.mono b8
           refine Ek Tryz.call39 Z (XL n (W8.mk p0.list r s) o p BT BU a j k J _ _ t0 tY tZ) ?_
           rintro _ DS _ er ⟨jk, jl, KB, rfl, rfl, t1, t2⟩
           refine ⟨(Ic Mb5 In0), ?_⟩
           refine Ao 15 Z ?_
           refine OpW.shift (Shift.settle (T := Ty.i64) (.there (.there .here)) t2 Z (fun na b9 t3 => Sd ?_))
           have t4 := t1.mono b9
           have kp : RowR Xf na [(Xb a jk jl)] [a] := RowR.cons ⟨jk, jl, Z, t4, t3⟩ (RowR.nil)
           refine Xx (T := Xf) (rows := [(Xb a jk jl)]) (l := [a]) Z Z Z kp Z Z Z Z Z Z Z Z (fun LB => ⟨(Ic Mb6 In0), ?_⟩)
           refine Ao 16 Z ?_
           have t6 := ((tW.mono b8).mono er).mono b9
           refine Xj (T := Xf) (bytes := 88) (q := 0) Z Z Z t6 Mb4 Z (SrcT.row Mb0 kp Z) B Z Z Z Z Z Z Z Z (fun dB DT gQ t5 => ⟨_, (.there (.there (.there (.there .here)))), ⟨(Ic Mb6 In0), ?_⟩⟩)
           refine Aw.shift (Re0 (Sd ⟨(Ic Mb5 In0), ?_⟩))
           have ft := ((((g.mono b7).mono b8).mono er).mono b9).mono gQ
           obtain ⟨IS, hO, qo⟩ := RowR.at ft h
           obtain ⟨LC, rfl, Hp⟩ := qo
           refine Xk 17 (by kernel_rfl) (Jyq Z (XB (T := (Ty.sl Xf)) Mb4 ft hO (Xm h).1 Z Z Z Z Z) ⟨(Ic Mb5 In0), ?_⟩)
           refine Ao 18 Z ?_
           refine Xr (T := (Ty.sl Xf)) (vs := [(sv dB)]) (r' := [(sv dB)]) (l' := (Xz f b i)) Z Z Z Z Z (.there (.there (.there (.there .here)))) ft hO Z Z Z (RowR.set b ft ⟨dB, Z, t5⟩) (fun oX => ⟨(Ic Mb5 In0), ?_⟩)
           have GB := XG hO (v := [(sv dB)])
           refine Ad<|Pu4<|Pu6<|Pu6<|Pu3<|Re4<|Re4<|Re4<|?_
           have t7 := (((lw.mono b8).mono er).mono b9).mono gQ
           have t8 := ((((z.mono b7).mono b8).mono er).mono b9).mono gQ
           exact Sd ⟨_, by exact R2, j, k, e, p1.cnfg.starts, p1.cnfg.threads, c, (Xz f b i), (x.set b.toNat [(sv dB)]), w, p1.picks, Z, Z, H, t7, oX, t8⟩
          ·refine id (Jyq Z (X1 (m := 3) (cs := (Xl p1.cnfg t e)) Z Z Z Z ⟨Z, Rb3 Z⟩) ⟨(Ic Mb2 In0), ?_⟩)
           refine Ao 8 Z ?_
           refine OpW.shift (Shift.nilTok1 70 7 (Sd ?_))
           refine Xj (T := Xf) (bytes := 88) (q := 0) Z Z Z (Slr.nil Xf _) Mb0 Z (SrcT.sl ar) P Z Z Z Z Z Z Z Z (fun LD DU ca t9 => ⟨_, .here, ⟨(Ic Mb3 In0), ?_⟩⟩)
           refine Ao 13 Z ?_
           refine OpW.shift (Pu1 (Sd ?_))
           have lx := F.mono ca
           have ua := L.mono ca
           have ly := I.mono ca
           refine Ek Tryz.call40 Z (XT n (W8.mk p0.list N ((W8.mk p0.list D p0.value).value)) o p1.cnfg t e p r s O _ _ lx ua ly) ?_
           rintro _ DV _ cb ⟨BV, BW, rfl, rfl, ub, uc⟩
           refine ⟨(Ic Mb3 In0), ?_⟩
           refine Ao 14 Z ?_
           have ud := lx.mono cb
           refine Ek Tryz.call39 Z (XL n (W8.mk p0.list r s) o p BV BW a j k J _ _ ud ub uc) ?_
           rintro _ DW _ es ⟨jm, jn, KC, rfl, rfl, ue, uf⟩
           refine ⟨(Ic Mb5 In0), ?_⟩
           refine Ao 15 Z ?_
           refine OpW.shift (Shift.settle (T := Ty.i64) (.there (.there .here)) uf Z (fun nb cc ug => Sd ?_))
           have uh := ue.mono cc
           have kq : RowR Xf nb [(Xb a jm jn)] [a] := RowR.cons ⟨jm, jn, Z, uh, ug⟩ (RowR.nil)
           refine Xx (T := Xf) (rows := [(Xb a jm jn)]) (l := [a]) Z Z Z kq Z Z Z Z Z Z Z Z (fun LE => ⟨(Ic Mb6 In0), ?_⟩)
           refine Ao 16 Z ?_
           have uj := ((t9.mono cb).mono es).mono cc
           refine Xj (T := Xf) (bytes := 88) (q := 0) Z Z Z uj Mb4 Z (SrcT.row Mb0 kq Z) B Z Z Z Z Z Z Z Z (fun dC DX gR ui => ⟨_, (.there (.there (.there (.there .here)))), ⟨(Ic Mb6 In0), ?_⟩⟩)
           refine Aw.shift (Re0 (Sd ⟨(Ic Mb5 In0), ?_⟩))
           have fu := ((((g.mono ca).mono cb).mono es).mono cc).mono gR
           obtain ⟨IT, hP, qp⟩ := RowR.at fu h
           obtain ⟨LF, rfl, Hq⟩ := qp
           refine Xk 17 (by kernel_rfl) (Jyq Z (XB (T := (Ty.sl Xf)) Mb4 fu hP (Xm h).1 Z Z Z Z Z) ⟨(Ic Mb5 In0), ?_⟩)
           refine Ao 18 Z ?_
           refine Xr (T := (Ty.sl Xf)) (vs := [(sv dC)]) (r' := [(sv dC)]) (l' := (Xz f b i)) Z Z Z Z Z (.there (.there (.there (.there .here)))) fu hP Z Z Z (RowR.set b fu ⟨dC, Z, ui⟩) (fun oY => ⟨(Ic Mb5 In0), ?_⟩)
           have GC := XG hP (v := [(sv dC)])
           refine Ad<|Pu4<|Pu6<|Pu6<|Pu3<|Re4<|Re4<|Re4<|?_
           have uk := (((ly.mono cb).mono es).mono cc).mono gR
           have ul := ((((z.mono ca).mono cb).mono es).mono cc).mono gR
           exact Sd ⟨_, by exact R2, j, k, e, p1.cnfg.starts, p1.cnfg.threads, c, (Xz f b i), (x.set b.toNat [(sv dC)]), w, p1.picks, Z, Z, H, uk, oY, ul⟩
         ·refine id (Jyq Z (X1 (m := 3) (cs := (Xl p1.cnfg t e)) Z Z Z Z ⟨Z, Rb3 Z⟩) ⟨(Ic Mb2 In0), ?_⟩)
          refine Xk 7 (by kernel_rfl) (Jyq Z (Xe (v := (sv dA)) Z Z Z (XI (T := (Ty.sl Xf)) Mb1 g aP Z Z)) ⟨(Ic Mb2 In0), ?_⟩)
          refine Ao 8 Z ?_
          refine OpW.shift (Shift.nilTok1 70 7 (Sd ?_))
          refine Xj (T := Xf) (bytes := 88) (q := 0) Z Z Z (Slr.nil Xf _) Mb0 Z (SrcT.sl ar) P Z Z Z Z Z Z Z Z (fun LG DY cd um => ⟨_, .here, ⟨(Ic Mb3 In0), ?_⟩⟩)
          refine Ao 13 Z ?_
          refine OpW.shift (Pu1 (Sd ?_))
          have lz := F.mono cd
          have un := L.mono cd
          have lA := I.mono cd
          refine Ek Tryz.call40 Z (XT n (W8.mk p0.list N ((W8.mk p0.list D p0.value).value)) o p1.cnfg t e p r s O _ _ lz un lA) ?_
          rintro _ DZ _ ce ⟨BX, BY, rfl, rfl, uo, up⟩
          refine ⟨(Ic Mb3 In0), ?_⟩
          refine Ao 14 Z ?_
          have uq := lz.mono ce
          refine Ek Tryz.call39 Z (XL n (W8.mk p0.list r s) o p BX BY a j k J _ _ uq uo up) ?_
          rintro _ D0 _ et ⟨jo, jp, KD, rfl, rfl, ur, us⟩
          refine ⟨(Ic Mb5 In0), ?_⟩
          refine Ao 15 Z ?_
          refine OpW.shift (Shift.settle (T := Ty.i64) (.there (.there .here)) us Z (fun nc cf ut => Sd ?_))
          have uu := ur.mono cf
          have kr : RowR Xf nc [(Xb a jo jp)] [a] := RowR.cons ⟨jo, jp, Z, uu, ut⟩ (RowR.nil)
          refine Xx (T := Xf) (rows := [(Xb a jo jp)]) (l := [a]) Z Z Z kr Z Z Z Z Z Z Z Z (fun LH => ⟨(Ic Mb6 In0), ?_⟩)
          refine Ao 16 Z ?_
          have uw := ((um.mono ce).mono et).mono cf
          refine Xj (T := Xf) (bytes := 88) (q := 0) Z Z Z uw Mb4 Z (SrcT.row Mb0 kr Z) B Z Z Z Z Z Z Z Z (fun dD D1 gS uv => ⟨_, (.there (.there (.there (.there .here)))), ⟨(Ic Mb6 In0), ?_⟩⟩)
          refine Aw.shift (Re0 (Sd ⟨(Ic Mb5 In0), ?_⟩))
          have fv := ((((g.mono cd).mono ce).mono et).mono cf).mono gS
          obtain ⟨IU, hQ, qq⟩ := RowR.at fv h
          obtain ⟨LI, rfl, Hr⟩ := qq
          refine Xk 17 (by kernel_rfl) (Jyq Z (XB (T := (Ty.sl Xf)) Mb4 fv hQ (Xm h).1 Z Z Z Z Z) ⟨(Ic Mb5 In0), ?_⟩)
          refine Ao 18 Z ?_
          refine Xr (T := (Ty.sl Xf)) (vs := [(sv dD)]) (r' := [(sv dD)]) (l' := (Xz f b i)) Z Z Z Z Z (.there (.there (.there (.there .here)))) fv hQ Z Z Z (RowR.set b fv ⟨dD, Z, uv⟩) (fun oZ => ⟨(Ic Mb5 In0), ?_⟩)
          have GD := XG hQ (v := [(sv dD)])
          refine Ad<|Pu4<|Pu6<|Pu6<|Pu3<|Re4<|Re4<|Re4<|?_
          have ux := (((lA.mono ce).mono et).mono cf).mono gS
          have uy := ((((z.mono cd).mono ce).mono et).mono cf).mono gS
          exact Sd ⟨_, by exact R2, j, k, e, p1.cnfg.starts, p1.cnfg.threads, c, (Xz f b i), (x.set b.toNat [(sv dD)]), w, p1.picks, Z, Z, H, ux, oZ, uy⟩
        ·refine id (Jyq Z (Xe (v := (sv dA)) Z Z Z (XI (T := (Ty.sl Xf)) Mb1 g aP Z Z)) ⟨(Ic Mb2 In0), ?_⟩)
         refine Ye 1 8 12 (by kernel_rfl) ?_ ?_ ?_
         ·refine id (Jyq Z (Xe (v := (sv c)) Z Z Z (Rb3 Z)) ⟨(Ic Mb2 In0), ?_⟩)
          refine Xu 8 12 (by kernel_rfl) ?_ ?_
          ·refine id (Jy Z ?_)
           refine OpW.shift (Shift.nilTok1 70 7 (Sd ?_))
           refine Xj (T := Xf) (bytes := 88) (q := 0) Z Z Z (Slr.nil Xf _) Mb0 Z (SrcT.sl ar) P Z Z Z Z Z Z Z Z (fun LJ D2 cg uz => ⟨_, .here, ⟨(Ic Mb3 In0), ?_⟩⟩)
           refine Xk 12 (by kernel_rfl) (Jyq Z (X1 (m := 3) (cs := (Xl p1.cnfg t e)) Z Z Z Z ⟨Z, Rb4 Z⟩) ⟨(Ic Mb3 In0), ?_⟩)
           refine Ao 13 Z ?_
           refine OpW.shift (Pu1 (Sd ?_))
           have lB := F.mono cg
           have uA := L.mono cg
           have lC := I.mono cg
           refine Ek Tryz.call40 Z (XT n (W8.mk p0.list N ((W8.mk p0.list D p0.value).value)) o p1.cnfg t e p r s O _ _ lB uA lC) ?_
           rintro _ D3 _ ch ⟨BZ, B0, rfl, rfl, uB, uC⟩
           refine ⟨(Ic Mb3 In0), ?_⟩
           refine Ao 14 Z ?_
           have uD := lB.mono ch
           refine Ek Tryz.call39 Z (XL n (W8.mk p0.list r s) o p BZ B0 a j k J _ _ uD uB uC) ?_
           rintro _ D4 _ eu ⟨jq, jr, KE, rfl, rfl, uE, uF⟩
           refine ⟨(Ic Mb5 In0), ?_⟩
           refine Ao 15 Z ?_
           refine OpW.shift (Shift.settle (T := Ty.i64) (.there (.there .here)) uF Z (fun nd ci uG => Sd ?_))
           have uH := uE.mono ci
           have ks : RowR Xf nd [(Xb a jq jr)] [a] := RowR.cons ⟨jq, jr, Z, uH, uG⟩ (RowR.nil)
           refine Xx (T := Xf) (rows := [(Xb a jq jr)]) (l := [a]) Z Z Z ks Z Z Z Z Z Z Z Z (fun LK => ⟨(Ic Mb6 In0), ?_⟩)
           refine Ao 16 Z ?_
           have uJ := ((uz.mono ch).mono eu).mono ci
           refine Xj (T := Xf) (bytes := 88) (q := 0) Z Z Z uJ Mb4 Z (SrcT.row Mb0 ks Z) B Z Z Z Z Z Z Z Z (fun dE D5 gT uI => ⟨_, (.there (.there (.there (.there .here)))), ⟨(Ic Mb6 In0), ?_⟩⟩)
           refine Aw.shift (Re0 (Sd ⟨(Ic Mb5 In0), ?_⟩))
           have fw := ((((g.mono cg).mono ch).mono eu).mono ci).mono gT
           obtain ⟨IV, hR, qr⟩ := RowR.at fw h
           obtain ⟨LL, rfl, Hs⟩ := qr
           refine Xk 17 (by kernel_rfl) (Jyq Z (XB (T := (Ty.sl Xf)) Mb4 fw hR (Xm h).1 Z Z Z Z Z) ⟨(Ic Mb5 In0), ?_⟩)
           refine Ao 18 Z ?_
           refine Xr (T := (Ty.sl Xf)) (vs := [(sv dE)]) (r' := [(sv dE)]) (l' := (Xz f b i)) Z Z Z Z Z (.there (.there (.there (.there .here)))) fw hR Z Z Z (RowR.set b fw ⟨dE, Z, uI⟩) (fun o0 => ⟨(Ic Mb5 In0), ?_⟩)
           have GE := XG hR (v := [(sv dE)])
           refine Ad<|Pu4<|Pu6<|Pu6<|Pu3<|Re4<|Re4<|Re4<|?_
           have uK := (((lC.mono ch).mono eu).mono ci).mono gT
           have uL := ((((z.mono cg).mono ch).mono eu).mono ci).mono gT
           exact Sd ⟨_, by exact R2, j, k, e, p1.cnfg.starts, p1.cnfg.threads, c, (Xz f b i), (x.set b.toNat [(sv dE)]), w, p1.picks, Z, Z, H, uK, o0, uL⟩
          ·refine id (Jyq Z (X1 (m := 3) (cs := (Xl p1.cnfg t e)) Z Z Z Z ⟨Z, Rb3 Z⟩) ⟨(Ic Mb2 In0), ?_⟩)
           refine Ao 8 Z ?_
           refine OpW.shift (Shift.nilTok1 70 7 (Sd ?_))
           refine Xj (T := Xf) (bytes := 88) (q := 0) Z Z Z (Slr.nil Xf _) Mb0 Z (SrcT.sl ar) P Z Z Z Z Z Z Z Z (fun LM D6 cj uM => ⟨_, .here, ⟨(Ic Mb3 In0), ?_⟩⟩)
           refine Ao 13 Z ?_
           refine OpW.shift (Pu1 (Sd ?_))
           have lD := F.mono cj
           have uN := L.mono cj
           have lE := I.mono cj
           refine Ek Tryz.call40 Z (XT n (W8.mk p0.list N ((W8.mk p0.list D p0.value).value)) o p1.cnfg t e p r s O _ _ lD uN lE) ?_
           rintro _ D7 _ ck ⟨B1, B2, rfl, rfl, uO, uP⟩
           refine ⟨(Ic Mb3 In0), ?_⟩
           refine Ao 14 Z ?_
           have uQ := lD.mono ck
           refine Ek Tryz.call39 Z (XL n (W8.mk p0.list r s) o p B1 B2 a j k J _ _ uQ uO uP) ?_
           rintro _ D8 _ ev ⟨js, jt, KF, rfl, rfl, uR, uS⟩
           refine ⟨(Ic Mb5 In0), ?_⟩
           refine Ao 15 Z ?_
           refine OpW.shift (Shift.settle (T := Ty.i64) (.there (.there .here)) uS Z (fun nf cl uT => Sd ?_))
           have uU := uR.mono cl
           have kt : RowR Xf nf [(Xb a js jt)] [a] := RowR.cons ⟨js, jt, Z, uU, uT⟩ (RowR.nil)
           refine Xx (T := Xf) (rows := [(Xb a js jt)]) (l := [a]) Z Z Z kt Z Z Z Z Z Z Z Z (fun LN => ⟨(Ic Mb6 In0), ?_⟩)
           refine Ao 16 Z ?_
           have uW := ((uM.mono ck).mono ev).mono cl
           refine Xj (T := Xf) (bytes := 88) (q := 0) Z Z Z uW Mb4 Z (SrcT.row Mb0 kt Z) B Z Z Z Z Z Z Z Z (fun dF D9 gU uV => ⟨_, (.there (.there (.there (.there .here)))), ⟨(Ic Mb6 In0), ?_⟩⟩)
           refine Aw.shift (Re0 (Sd ⟨(Ic Mb5 In0), ?_⟩))
           have fx := ((((g.mono cj).mono ck).mono ev).mono cl).mono gU
           obtain ⟨IW, hS, qs⟩ := RowR.at fx h
           obtain ⟨LO, rfl, Ht⟩ := qs
           refine Xk 17 (by kernel_rfl) (Jyq Z (XB (T := (Ty.sl Xf)) Mb4 fx hS (Xm h).1 Z Z Z Z Z) ⟨(Ic Mb5 In0), ?_⟩)
           refine Ao 18 Z ?_
           refine Xr (T := (Ty.sl Xf)) (vs := [(sv dF)]) (r' := [(sv dF)]) (l' := (Xz f b i)) Z Z Z Z Z (.there (.there (.there (.there .here)))) fx hS Z Z Z (RowR.set b fx ⟨dF, Z, uV⟩) (fun o1 => ⟨(Ic Mb5 In0), ?_⟩)
           have GF := XG hS (v := [(sv dF)])
           refine Ad<|Pu4<|Pu6<|Pu6<|Pu3<|Re4<|Re4<|Re4<|?_
           have uX := (((lE.mono ck).mono ev).mono cl).mono gU
           have uY := ((((z.mono cj).mono ck).mono ev).mono cl).mono gU
           exact Sd ⟨_, by exact R2, j, k, e, p1.cnfg.starts, p1.cnfg.threads, c, (Xz f b i), (x.set b.toNat [(sv dF)]), w, p1.picks, Z, Z, H, uX, o1, uY⟩
         ·refine id (Jy Z ?_)
          refine OpW.shift (Shift.nilTok1 70 7 (Sd ?_))
          refine Xj (T := Xf) (bytes := 88) (q := 0) Z Z Z (Slr.nil Xf _) Mb0 Z (SrcT.sl ar) P Z Z Z Z Z Z Z Z (fun LP Eb aa aQ => ⟨_, .here, ⟨(Ic Mb3 In0), ?_⟩⟩)
          refine Xu 1 12 (by kernel_rfl) ?_ ?_
          ·refine id (Jyq Z (Xe (v := (sv c)) Z Z Z (Rb4 Z)) ⟨(Ic Mb3 In0), ?_⟩)
           refine Xk 12 (by kernel_rfl) (Jyq Z (X1 (m := 3) (cs := (Xl p1.cnfg t e)) Z Z Z Z ⟨Z, Rb4 Z⟩) ⟨(Ic Mb3 In0), ?_⟩)
           refine Ao 13 Z ?_
           refine OpW.shift (Pu1 (Sd ?_))
           have lF := F.mono aa
           have uZ := L.mono aa
           have lG := I.mono aa
           refine Ek Tryz.call40 Z (XT n (W8.mk p0.list N ((W8.mk p0.list D p0.value).value)) o p1.cnfg t e p r s O _ _ lF uZ lG) ?_
           rintro _ Ed _ cm ⟨B3, B4, rfl, rfl, u0, u1⟩
           refine ⟨(Ic Mb3 In0), ?_⟩
           refine Ao 14 Z ?_
           have u2 := lF.mono cm
           refine Ek Tryz.call39 Z (XL n (W8.mk p0.list r s) o p B3 B4 a j k J _ _ u2 u0 u1) ?_
           rintro _ Ee _ ew ⟨ju, jv, KG, rfl, rfl, u3, u4⟩
           refine ⟨(Ic Mb5 In0), ?_⟩
           refine Ao 15 Z ?_
           refine OpW.shift (Shift.settle (T := Ty.i64) (.there (.there .here)) u4 Z (fun ng cn u5 => Sd ?_))
           have u6 := u3.mono cn
           have ku : RowR Xf ng [(Xb a ju jv)] [a] := RowR.cons ⟨ju, jv, Z, u6, u5⟩ (RowR.nil)
           refine Xx (T := Xf) (rows := [(Xb a ju jv)]) (l := [a]) Z Z Z ku Z Z Z Z Z Z Z Z (fun LQ => ⟨(Ic Mb6 In0), ?_⟩)
           refine Ao 16 Z ?_
           have u9 := ((aQ.mono cm).mono ew).mono cn
           refine Xj (T := Xf) (bytes := 88) (q := 0) Z Z Z u9 Mb4 Z (SrcT.row Mb0 ku Z) B Z Z Z Z Z Z Z Z (fun dG Ef gV u7 => ⟨_, (.there (.there (.there (.there .here)))), ⟨(Ic Mb6 In0), ?_⟩⟩)
           refine Aw.shift (Re0 (Sd ⟨(Ic Mb5 In0), ?_⟩))
           have fy := ((((g.mono aa).mono cm).mono ew).mono cn).mono gV
           obtain ⟨IX, hT, qt⟩ := RowR.at fy h
           obtain ⟨LR, rfl, Hu⟩ := qt
           refine Xk 17 (by kernel_rfl) (Jyq Z (XB (T := (Ty.sl Xf)) Mb4 fy hT (Xm h).1 Z Z Z Z Z) ⟨(Ic Mb5 In0), ?_⟩)
           refine Ao 18 Z ?_
           refine Xr (T := (Ty.sl Xf)) (vs := [(sv dG)]) (r' := [(sv dG)]) (l' := (Xz f b i)) Z Z Z Z Z (.there (.there (.there (.there .here)))) fy hT Z Z Z (RowR.set b fy ⟨dG, Z, u7⟩) (fun o2 => ⟨(Ic Mb5 In0), ?_⟩)
           have GG := XG hT (v := [(sv dG)])
           refine Ad<|Pu4<|Pu6<|Pu6<|Pu3<|Re4<|Re4<|Re4<|?_
           have va := (((lG.mono cm).mono ew).mono cn).mono gV
           have vb := ((((z.mono aa).mono cm).mono ew).mono cn).mono gV
           exact Sd ⟨_, by exact R2, j, k, e, p1.cnfg.starts, p1.cnfg.threads, c, (Xz f b i), (x.set b.toNat [(sv dG)]), w, p1.picks, Z, Z, H, va, o2, vb⟩
          ·refine id (Jyq Z (X1 (m := 3) (cs := (Xl p1.cnfg t e)) Z Z Z Z ⟨Z, Rb4 Z⟩) ⟨(Ic Mb3 In0), ?_⟩)
           refine Xu 1 13 (by kernel_rfl) ?_ ?_
           ·refine id (Jyq Z (Xe (v := (sv c)) Z Z Z (Rb4 Z)) ⟨(Ic Mb3 In0), ?_⟩)
            refine Ao 13 Z ?_
            refine OpW.shift (Pu1 (Sd ?_))
            have lH := F.mono aa
            have vc := L.mono aa
            have lI := I.mono aa
            refine Ek Tryz.call40 Z (XT n (W8.mk p0.list N ((W8.mk p0.list D p0.value).value)) o p1.cnfg t e p r s O _ _ lH vc lI) ?_
            rintro _ Eg _ co ⟨B5, B6, rfl, rfl, vd, ve⟩
            refine ⟨(Ic Mb3 In0), ?_⟩
            refine Ao 14 Z ?_
            have vf := lH.mono co
            refine Ek Tryz.call39 Z (XL n (W8.mk p0.list r s) o p B5 B6 a j k J _ _ vf vd ve) ?_
            rintro _ Eh _ ex ⟨jw, jx, KH, rfl, rfl, vg, vh⟩
            refine ⟨(Ic Mb5 In0), ?_⟩
            refine Ao 15 Z ?_
            refine OpW.shift (Shift.settle (T := Ty.i64) (.there (.there .here)) vh Z (fun nh cp vi => Sd ?_))
            have vj := vg.mono cp
            have kv : RowR Xf nh [(Xb a jw jx)] [a] := RowR.cons ⟨jw, jx, Z, vj, vi⟩ (RowR.nil)
            refine Xx (T := Xf) (rows := [(Xb a jw jx)]) (l := [a]) Z Z Z kv Z Z Z Z Z Z Z Z (fun LS => ⟨(Ic Mb6 In0), ?_⟩)
            refine Ao 16 Z ?_
            have vl := ((aQ.mono co).mono ex).mono cp
            refine Xj (T := Xf) (bytes := 88) (q := 0) Z Z Z vl Mb4 Z (SrcT.row Mb0 kv Z) B Z Z Z Z Z Z Z Z (fun dH Ei gW vk => ⟨_, (.there (.there (.there (.there .here)))), ⟨(Ic Mb6 In0), ?_⟩⟩)
            refine Aw.shift (Re0 (Sd ⟨(Ic Mb5 In0), ?_⟩))
            have fz := ((((g.mono aa).mono co).mono ex).mono cp).mono gW
            obtain ⟨IY, hU, qu⟩ := RowR.at fz h
            obtain ⟨LT, rfl, Hv⟩ := qu
            refine Xk 17 (by kernel_rfl) (Jyq Z (XB (T := (Ty.sl Xf)) Mb4 fz hU (Xm h).1 Z Z Z Z Z) ⟨(Ic Mb5 In0), ?_⟩)
            refine Ao 18 Z ?_
            refine Xr (T := (Ty.sl Xf)) (vs := [(sv dH)]) (r' := [(sv dH)]) (l' := (Xz f b i)) Z Z Z Z Z (.there (.there (.there (.there .here)))) fz hU Z Z Z (RowR.set b fz ⟨dH, Z, vk⟩) (fun o3 => ⟨(Ic Mb5 In0), ?_⟩)
            have GH := XG hU (v := [(sv dH)])
            refine Ad<|Pu4<|Pu6<|Pu6<|Pu3<|Re4<|Re4<|Re4<|?_
            have vm := (((lI.mono co).mono ex).mono cp).mono gW
            have vn := ((((z.mono aa).mono co).mono ex).mono cp).mono gW
            exact Sd ⟨_, by exact R2, j, k, e, p1.cnfg.starts, p1.cnfg.threads, c, (Xz f b i), (x.set b.toNat [(sv dH)]), w, p1.picks, Z, Z, H, vm, o3, vn⟩
           ·refine id (Jy Z ?_)
            refine OpW.shift (Pu1 (Sd ?_))
            have iO := F.mono aa
            have vo := L.mono aa
            have de := I.mono aa
            refine Ek Tryz.call40 Z (XT n (W8.mk p0.list N ((W8.mk p0.list D p0.value).value)) o p1.cnfg t e p r s O _ _ iO vo de) ?_
            rintro _ Ej _ ab ⟨mD, mE, rfl, rfl, lJ, lK⟩
            refine ⟨(Ic Mb3 In0), ?_⟩
            refine Xu 1 14 (by kernel_rfl) ?_ ?_
            ·refine id (Jyq Z (Xe (v := (sv c)) Z Z Z (Rb4 Z)) ⟨(Ic Mb3 In0), ?_⟩)
             refine Ao 14 Z ?_
             have vp := iO.mono ab
             refine Ek Tryz.call39 Z (XL n (W8.mk p0.list r s) o p mD mE a j k J _ _ vp lJ lK) ?_
             rintro _ En _ ey ⟨jy, jz, KI, rfl, rfl, vq, vr⟩
             refine ⟨(Ic Mb5 In0), ?_⟩
             refine Ao 15 Z ?_
             refine OpW.shift (Shift.settle (T := Ty.i64) (.there (.there .here)) vr Z (fun ni cq vt => Sd ?_))
             have vu := vq.mono cq
             have kw : RowR Xf ni [(Xb a jy jz)] [a] := RowR.cons ⟨jy, jz, Z, vu, vt⟩ (RowR.nil)
             refine Xx (T := Xf) (rows := [(Xb a jy jz)]) (l := [a]) Z Z Z kw Z Z Z Z Z Z Z Z (fun LU => ⟨(Ic Mb6 In0), ?_⟩)
             refine Ao 16 Z ?_
             have vw := ((aQ.mono ab).mono ey).mono cq
             refine Xj (T := Xf) (bytes := 88) (q := 0) Z Z Z vw Mb4 Z (SrcT.row Mb0 kw Z) B Z Z Z Z Z Z Z Z (fun dI Eo gX vv => ⟨_, (.there (.there (.there (.there .here)))), ⟨(Ic Mb6 In0), ?_⟩⟩)
             refine Aw.shift (Re0 (Sd ⟨(Ic Mb5 In0), ?_⟩))
             have fA := ((((g.mono aa).mono ab).mono ey).mono cq).mono gX
             obtain ⟨IZ, hV, qv⟩ := RowR.at fA h
             obtain ⟨LV, rfl, Hw⟩ := qv
             refine Xk 17 (by kernel_rfl) (Jyq Z (XB (T := (Ty.sl Xf)) Mb4 fA hV (Xm h).1 Z Z Z Z Z) ⟨(Ic Mb5 In0), ?_⟩)
             refine Ao 18 Z ?_
             refine Xr (T := (Ty.sl Xf)) (vs := [(sv dI)]) (r' := [(sv dI)]) (l' := (Xz f b i)) Z Z Z Z Z (.there (.there (.there (.there .here)))) fA hV Z Z Z (RowR.set b fA ⟨dI, Z, vv⟩) (fun o4 => ⟨(Ic Mb5 In0), ?_⟩)
             have GI := XG hV (v := [(sv dI)])
             refine Ad<|Pu4<|Pu6<|Pu6<|Pu3<|Re4<|Re4<|Re4<|?_
             have vx := (((de.mono ab).mono ey).mono cq).mono gX
             have vy := ((((z.mono aa).mono ab).mono ey).mono cq).mono gX
             exact Sd ⟨_, by exact R2, j, k, e, p1.cnfg.starts, p1.cnfg.threads, c, (Xz f b i), (x.set b.toNat [(sv dI)]), w, p1.picks, Z, Z, H, vx, o4, vy⟩
            ·refine id (Jy Z ?_)
             have vz := iO.mono ab
             refine Ek Tryz.call39 Z (XL n (W8.mk p0.list r s) o p mD mE a j k J _ _ vz lJ lK) ?_
             rintro _ Ep _ am ⟨aS, aT, KJ, rfl, rfl, lL, lM⟩
             refine ⟨(Ic Mb5 In0), ?_⟩
             refine Xu 1 15 (by kernel_rfl) ?_ ?_
             ·refine id (Jyq Z (Xe (v := (sv c)) Z Z Z (Rb6 Z)) ⟨(Ic Mb5 In0), ?_⟩)
              refine Ao 15 Z ?_
              refine OpW.shift (Shift.settle (T := Ty.i64) (.there (.there .here)) lM Z (fun nj cr vA => Sd ?_))
              have vB := lL.mono cr
              have kx : RowR Xf nj [(Xb a aS aT)] [a] := RowR.cons ⟨aS, aT, Z, vB, vA⟩ (RowR.nil)
              refine Xx (T := Xf) (rows := [(Xb a aS aT)]) (l := [a]) Z Z Z kx Z Z Z Z Z Z Z Z (fun LW => ⟨(Ic Mb6 In0), ?_⟩)
              refine Ao 16 Z ?_
              have vD := ((aQ.mono ab).mono am).mono cr
              refine Xj (T := Xf) (bytes := 88) (q := 0) Z Z Z vD Mb4 Z (SrcT.row Mb0 kx Z) B Z Z Z Z Z Z Z Z (fun dJ Er gY vC => ⟨_, (.there (.there (.there (.there .here)))), ⟨(Ic Mb6 In0), ?_⟩⟩)
              refine Aw.shift (Re0 (Sd ⟨(Ic Mb5 In0), ?_⟩))
              have fB := ((((g.mono aa).mono ab).mono am).mono cr).mono gY
              obtain ⟨I0, hW, qw⟩ := RowR.at fB h
              obtain ⟨LX, rfl, Hx⟩ := qw
              refine Xk 17 (by kernel_rfl) (Jyq Z (XB (T := (Ty.sl Xf)) Mb4 fB hW (Xm h).1 Z Z Z Z Z) ⟨(Ic Mb5 In0), ?_⟩)
              refine Ao 18 Z ?_
              refine Xr (T := (Ty.sl Xf)) (vs := [(sv dJ)]) (r' := [(sv dJ)]) (l' := (Xz f b i)) Z Z Z Z Z (.there (.there (.there (.there .here)))) fB hW Z Z Z (RowR.set b fB ⟨dJ, Z, vC⟩) (fun o5 => ⟨(Ic Mb5 In0), ?_⟩)
              have GJ := XG hW (v := [(sv dJ)])
              refine Ad<|Pu4<|Pu6<|Pu6<|Pu3<|Re4<|Re4<|Re4<|?_
              have vE := (((de.mono ab).mono am).mono cr).mono gY
              have vF := ((((z.mono aa).mono ab).mono am).mono cr).mono gY
              exact Sd ⟨_, by exact R2, j, k, e, p1.cnfg.starts, p1.cnfg.threads, c, (Xz f b i), (x.set b.toNat [(sv dJ)]), w, p1.picks, Z, Z, H, vE, o5, vF⟩
             ·refine id (Jy Z ?_)
              refine OpW.shift (Shift.settle (T := Ty.i64) (.there (.there .here)) lM Z (fun nk ax vG => Sd ?_))
              have vH := lL.mono ax
              have hx : RowR Xf nk [(Xb a aS aT)] [a] := RowR.cons ⟨aS, aT, Z, vH, vG⟩ (RowR.nil)
              refine Xx (T := Xf) (rows := [(Xb a aS aT)]) (l := [a]) Z Z Z hx Z Z Z Z Z Z Z Z (fun LY => ⟨(Ic Mb6 In0), ?_⟩)
              refine Xu 1 16 (by kernel_rfl) ?_ ?_
              ·refine id (Jyq Z (Xe (v := (sv c)) Z Z Z (Rb7 Z)) ⟨(Ic Mb6 In0), ?_⟩)
               refine Ao 16 Z ?_
               have vJ := ((aQ.mono ab).mono am).mono ax
               refine Xj (T := Xf) (bytes := 88) (q := 0) Z Z Z vJ Mb4 Z (SrcT.row Mb0 hx Z) B Z Z Z Z Z Z Z Z (fun dK Es gZ vI => ⟨_, (.there (.there (.there (.there .here)))), ⟨(Ic Mb6 In0), ?_⟩⟩)
               refine Aw.shift (Re0 (Sd ⟨(Ic Mb5 In0), ?_⟩))
               have fC := ((((g.mono aa).mono ab).mono am).mono ax).mono gZ
               obtain ⟨I1, hX, qx⟩ := RowR.at fC h
               obtain ⟨LZ, rfl, Hy⟩ := qx
               refine Xk 17 (by kernel_rfl) (Jyq Z (XB (T := (Ty.sl Xf)) Mb4 fC hX (Xm h).1 Z Z Z Z Z) ⟨(Ic Mb5 In0), ?_⟩)
               refine Ao 18 Z ?_
               refine Xr (T := (Ty.sl Xf)) (vs := [(sv dK)]) (r' := [(sv dK)]) (l' := (Xz f b i)) Z Z Z Z Z (.there (.there (.there (.there .here)))) fC hX Z Z Z (RowR.set b fC ⟨dK, Z, vI⟩) (fun o6 => ⟨(Ic Mb5 In0), ?_⟩)
               have GK := XG hX (v := [(sv dK)])
               refine Ad<|Pu4<|Pu6<|Pu6<|Pu3<|Re4<|Re4<|Re4<|?_
               have vK := (((de.mono ab).mono am).mono ax).mono gZ
               have vL := ((((z.mono aa).mono ab).mono am).mono ax).mono gZ
               exact Sd ⟨_, by exact R2, j, k, e, p1.cnfg.starts, p1.cnfg.threads, c, (Xz f b i), (x.set b.toNat [(sv dK)]), w, p1.picks, Z, Z, H, vK, o6, vL⟩
              ·refine id (Jy Z ?_)
               have vN := ((aQ.mono ab).mono am).mono ax
               refine Xj (T := Xf) (bytes := 88) (q := 0) Z Z Z vN Mb4 Z (SrcT.row Mb0 hx Z) B Z Z Z Z Z Z Z Z (fun dL Et g0 vM => ⟨_, (.there (.there (.there (.there .here)))), ⟨(Ic Mb6 In0), ?_⟩⟩)
               refine Aw.shift (Re0 (Sd ⟨(Ic Mb5 In0), ?_⟩))
               refine Xk 1 (by kernel_rfl) (Jyq Z (Xe (v := (sv c)) Z Z Z (Rb6 Z)) ⟨(Ic Mb5 In0), ?_⟩)
               have fD := ((((g.mono aa).mono ab).mono am).mono ax).mono g0
               obtain ⟨I2, hY, qy⟩ := RowR.at fD h
               obtain ⟨L0, rfl, Hz⟩ := qy
               refine Xk 17 (by kernel_rfl) (Jyq Z (XB (T := (Ty.sl Xf)) Mb4 fD hY (Xm h).1 Z Z Z Z Z) ⟨(Ic Mb5 In0), ?_⟩)
               refine Ao 18 Z ?_
               refine Xr (T := (Ty.sl Xf)) (vs := [(sv dL)]) (r' := [(sv dL)]) (l' := (Xz f b i)) Z Z Z Z Z (.there (.there (.there (.there .here)))) fD hY Z Z Z (RowR.set b fD ⟨dL, Z, vM⟩) (fun o7 => ⟨(Ic Mb5 In0), ?_⟩)
               have GL := XG hY (v := [(sv dL)])
               refine Ad<|Pu4<|Pu6<|Pu6<|Pu3<|Re4<|Re4<|Re4<|?_
               have vO := (((de.mono ab).mono am).mono ax).mono g0
               have vP := ((((z.mono aa).mono ab).mono am).mono ax).mono g0
               exact Sd ⟨_, by exact R2, j, k, e, p1.cnfg.starts, p1.cnfg.threads, c, (Xz f b i), (x.set b.toNat [(sv dL)]), w, p1.picks, Z, Z, H, vO, o7, vP⟩
         ·refine id (Jyq Z (X1 (m := 3) (cs := (Xl p1.cnfg t e)) Z Z Z Z ⟨Z, Rb3 Z⟩) ⟨(Ic Mb2 In0), ?_⟩)
          refine Xu 1 8 (by kernel_rfl) ?_ ?_
          ·refine id (Jyq Z (Xe (v := (sv c)) Z Z Z (Rb3 Z)) ⟨(Ic Mb2 In0), ?_⟩)
           refine Ao 8 Z ?_
           refine OpW.shift (Shift.nilTok1 70 7 (Sd ?_))
           refine Xj (T := Xf) (bytes := 88) (q := 0) Z Z Z (Slr.nil Xf _) Mb0 Z (SrcT.sl ar) P Z Z Z Z Z Z Z Z (fun L1 Eu ct vQ => ⟨_, .here, ⟨(Ic Mb3 In0), ?_⟩⟩)
           refine Ao 13 Z ?_
           refine OpW.shift (Pu1 (Sd ?_))
           have lN := F.mono ct
           have vR := L.mono ct
           have lO := I.mono ct
           refine Ek Tryz.call40 Z (XT n (W8.mk p0.list N ((W8.mk p0.list D p0.value).value)) o p1.cnfg t e p r s O _ _ lN vR lO) ?_
           rintro _ Ev _ cu ⟨B7, B8, rfl, rfl, vS, vT⟩
           refine ⟨(Ic Mb3 In0), ?_⟩
           refine Ao 14 Z ?_
           have vU := lN.mono cu
           refine Ek Tryz.call39 Z (XL n (W8.mk p0.list r s) o p B7 B8 a j k J _ _ vU vS vT) ?_
           rintro _ Ew _ ez ⟨jA, jB, KK, rfl, rfl, vV, vW⟩
           refine ⟨(Ic Mb5 In0), ?_⟩
           refine Ao 15 Z ?_
           refine OpW.shift (Shift.settle (T := Ty.i64) (.there (.there .here)) vW Z (fun nl cv vX => Sd ?_))
           have vY := vV.mono cv
           have ky : RowR Xf nl [(Xb a jA jB)] [a] := RowR.cons ⟨jA, jB, Z, vY, vX⟩ (RowR.nil)
           refine Xx (T := Xf) (rows := [(Xb a jA jB)]) (l := [a]) Z Z Z ky Z Z Z Z Z Z Z Z (fun L2 => ⟨(Ic Mb6 In0), ?_⟩)
           refine Ao 16 Z ?_
           have v0 := ((vQ.mono cu).mono ez).mono cv
           refine Xj (T := Xf) (bytes := 88) (q := 0) Z Z Z v0 Mb4 Z (SrcT.row Mb0 ky Z) B Z Z Z Z Z Z Z Z (fun dM Ex g1 vZ => ⟨_, (.there (.there (.there (.there .here)))), ⟨(Ic Mb6 In0), ?_⟩⟩)
           refine Aw.shift (Re0 (Sd ⟨(Ic Mb5 In0), ?_⟩))
           have fE := ((((g.mono ct).mono cu).mono ez).mono cv).mono g1
           obtain ⟨I3, hZ, qz⟩ := RowR.at fE h
           obtain ⟨L3, rfl, HA⟩ := qz
           refine Xk 17 (by kernel_rfl) (Jyq Z (XB (T := (Ty.sl Xf)) Mb4 fE hZ (Xm h).1 Z Z Z Z Z) ⟨(Ic Mb5 In0), ?_⟩)
           refine Ao 18 Z ?_
           refine Xr (T := (Ty.sl Xf)) (vs := [(sv dM)]) (r' := [(sv dM)]) (l' := (Xz f b i)) Z Z Z Z Z (.there (.there (.there (.there .here)))) fE hZ Z Z Z (RowR.set b fE ⟨dM, Z, vZ⟩) (fun o8 => ⟨(Ic Mb5 In0), ?_⟩)
           have GM := XG hZ (v := [(sv dM)])
           refine Ad<|Pu4<|Pu6<|Pu6<|Pu3<|Re4<|Re4<|Re4<|?_
           have v1 := (((lO.mono cu).mono ez).mono cv).mono g1
           have v2 := ((((z.mono ct).mono cu).mono ez).mono cv).mono g1
           exact Sd ⟨_, by exact R2, j, k, e, p1.cnfg.starts, p1.cnfg.threads, c, (Xz f b i), (x.set b.toNat [(sv dM)]), w, p1.picks, Z, Z, H, v1, o8, v2⟩
          ·refine id (Jy Z ?_)
           refine OpW.shift (Shift.nilTok1 70 7 (Sd ?_))
           refine Xj (T := Xf) (bytes := 88) (q := 0) Z Z Z (Slr.nil Xf _) Mb0 Z (SrcT.sl ar) P Z Z Z Z Z Z Z Z (fun L4 Ey ag df => ⟨_, .here, ⟨(Ic Mb3 In0), ?_⟩⟩)
           refine Xu 1 13 (by kernel_rfl) ?_ ?_
           ·refine id (Jyq Z (Xe (v := (sv c)) Z Z Z (Rb4 Z)) ⟨(Ic Mb3 In0), ?_⟩)
            refine Ao 13 Z ?_
            refine OpW.shift (Pu1 (Sd ?_))
            have lP := F.mono ag
            have v3 := L.mono ag
            have lQ := I.mono ag
            refine Ek Tryz.call40 Z (XT n (W8.mk p0.list N ((W8.mk p0.list D p0.value).value)) o p1.cnfg t e p r s O _ _ lP v3 lQ) ?_
            rintro _ Ez _ cw ⟨B9, Ca, rfl, rfl, v4, v5⟩
            refine ⟨(Ic Mb3 In0), ?_⟩
            refine Ao 14 Z ?_
            have v6 := lP.mono cw
            refine Ek Tryz.call39 Z (XL n (W8.mk p0.list r s) o p B9 Ca a j k J _ _ v6 v4 v5) ?_
            rintro _ EA _ eA ⟨jC, jD, KL, rfl, rfl, v7, v8⟩
            refine ⟨(Ic Mb5 In0), ?_⟩
            refine Ao 15 Z ?_
            refine OpW.shift (Shift.settle (T := Ty.i64) (.there (.there .here)) v8 Z (fun nm cx v9 => Sd ?_))
            have wa := v7.mono cx
            have kz : RowR Xf nm [(Xb a jC jD)] [a] := RowR.cons ⟨jC, jD, Z, wa, v9⟩ (RowR.nil)
            refine Xx (T := Xf) (rows := [(Xb a jC jD)]) (l := [a]) Z Z Z kz Z Z Z Z Z Z Z Z (fun L5 => ⟨(Ic Mb6 In0), ?_⟩)
            refine Ao 16 Z ?_
            have wc := ((df.mono cw).mono eA).mono cx
            refine Xj (T := Xf) (bytes := 88) (q := 0) Z Z Z wc Mb4 Z (SrcT.row Mb0 kz Z) B Z Z Z Z Z Z Z Z (fun dN EB g2 wb => ⟨_, (.there (.there (.there (.there .here)))), ⟨(Ic Mb6 In0), ?_⟩⟩)
            refine Aw.shift (Re0 (Sd ⟨(Ic Mb5 In0), ?_⟩))
            have fF := ((((g.mono ag).mono cw).mono eA).mono cx).mono g2
            obtain ⟨I4, h0, qA⟩ := RowR.at fF h
            obtain ⟨L6, rfl, HB⟩ := qA
            refine Xk 17 (by kernel_rfl) (Jyq Z (XB (T := (Ty.sl Xf)) Mb4 fF h0 (Xm h).1 Z Z Z Z Z) ⟨(Ic Mb5 In0), ?_⟩)
            refine Ao 18 Z ?_
            refine Xr (T := (Ty.sl Xf)) (vs := [(sv dN)]) (r' := [(sv dN)]) (l' := (Xz f b i)) Z Z Z Z Z (.there (.there (.there (.there .here)))) fF h0 Z Z Z (RowR.set b fF ⟨dN, Z, wb⟩) (fun o9 => ⟨(Ic Mb5 In0), ?_⟩)
            have GN := XG h0 (v := [(sv dN)])
            refine Ad<|Pu4<|Pu6<|Pu6<|Pu3<|Re4<|Re4<|Re4<|?_
            have wd := (((lQ.mono cw).mono eA).mono cx).mono g2
            have we := ((((z.mono ag).mono cw).mono eA).mono cx).mono g2
            exact Sd ⟨_, by exact R2, j, k, e, p1.cnfg.starts, p1.cnfg.threads, c, (Xz f b i), (x.set b.toNat [(sv dN)]), w, p1.picks, Z, Z, H, wd, o9, we⟩
           ·refine id (Jy Z ?_)
            refine OpW.shift (Pu1 (Sd ?_))
            have iP := F.mono ag
            have wf := L.mono ag
            have dg := I.mono ag
            refine Ek Tryz.call40 Z (XT n (W8.mk p0.list N ((W8.mk p0.list D p0.value).value)) o p1.cnfg t e p r s O _ _ iP wf dg) ?_
            rintro _ EC _ ac ⟨mF, mG, rfl, rfl, lR, lS⟩
            refine ⟨(Ic Mb3 In0), ?_⟩
            refine Xu 1 14 (by kernel_rfl) ?_ ?_
            ·refine id (Jyq Z (Xe (v := (sv c)) Z Z Z (Rb4 Z)) ⟨(Ic Mb3 In0), ?_⟩)
             refine Ao 14 Z ?_
             have wg := iP.mono ac
             refine Ek Tryz.call39 Z (XL n (W8.mk p0.list r s) o p mF mG a j k J _ _ wg lR lS) ?_
             rintro _ ED _ eB ⟨jE, jF, KM, rfl, rfl, wh, wi⟩
             refine ⟨(Ic Mb5 In0), ?_⟩
             refine Ao 15 Z ?_
             refine OpW.shift (Shift.settle (T := Ty.i64) (.there (.there .here)) wi Z (fun nn cy wj => Sd ?_))
             have wk := wh.mono cy
             have kA : RowR Xf nn [(Xb a jE jF)] [a] := RowR.cons ⟨jE, jF, Z, wk, wj⟩ (RowR.nil)
             refine Xx (T := Xf) (rows := [(Xb a jE jF)]) (l := [a]) Z Z Z kA Z Z Z Z Z Z Z Z (fun L7 => ⟨(Ic Mb6 In0), ?_⟩)
             refine Ao 16 Z ?_
             have wm := ((df.mono ac).mono eB).mono cy
             refine Xj (T := Xf) (bytes := 88) (q := 0) Z Z Z wm Mb4 Z (SrcT.row Mb0 kA Z) B Z Z Z Z Z Z Z Z (fun dO EE g3 wl => ⟨_, (.there (.there (.there (.there .here)))), ⟨(Ic Mb6 In0), ?_⟩⟩)
             refine Aw.shift (Re0 (Sd ⟨(Ic Mb5 In0), ?_⟩))
             have fG := ((((g.mono ag).mono ac).mono eB).mono cy).mono g3
             obtain ⟨I5, h1, qB⟩ := RowR.at fG h
             obtain ⟨L8, rfl, HC⟩ := qB
             refine Xk 17 (by kernel_rfl) (Jyq Z (XB (T := (Ty.sl Xf)) Mb4 fG h1 (Xm h).1 Z Z Z Z Z) ⟨(Ic Mb5 In0), ?_⟩)
             refine Ao 18 Z ?_
             refine Xr (T := (Ty.sl Xf)) (vs := [(sv dO)]) (r' := [(sv dO)]) (l' := (Xz f b i)) Z Z Z Z Z (.there (.there (.there (.there .here)))) fG h1 Z Z Z (RowR.set b fG ⟨dO, Z, wl⟩) (fun pa => ⟨(Ic Mb5 In0), ?_⟩)
             have GO := XG h1 (v := [(sv dO)])
             refine Ad<|Pu4<|Pu6<|Pu6<|Pu3<|Re4<|Re4<|Re4<|?_
             have wn := (((dg.mono ac).mono eB).mono cy).mono g3
             have wo := ((((z.mono ag).mono ac).mono eB).mono cy).mono g3
             exact Sd ⟨_, by exact R2, j, k, e, p1.cnfg.starts, p1.cnfg.threads, c, (Xz f b i), (x.set b.toNat [(sv dO)]), w, p1.picks, Z, Z, H, wn, pa, wo⟩
            ·refine id (Jy Z ?_)
             have wp := iP.mono ac
             refine Ek Tryz.call39 Z (XL n (W8.mk p0.list r s) o p mF mG a j k J _ _ wp lR lS) ?_
             rintro _ EG _ an ⟨aU, aV, KN, rfl, rfl, lT, lU⟩
             refine ⟨(Ic Mb5 In0), ?_⟩
             refine Xu 1 15 (by kernel_rfl) ?_ ?_
             ·refine id (Jyq Z (Xe (v := (sv c)) Z Z Z (Rb6 Z)) ⟨(Ic Mb5 In0), ?_⟩)
              refine Ao 15 Z ?_
              refine OpW.shift (Shift.settle (T := Ty.i64) (.there (.there .here)) lU Z (fun np cz wq => Sd ?_))
              have wr := lT.mono cz
              have kB : RowR Xf np [(Xb a aU aV)] [a] := RowR.cons ⟨aU, aV, Z, wr, wq⟩ (RowR.nil)
              refine Xx (T := Xf) (rows := [(Xb a aU aV)]) (l := [a]) Z Z Z kB Z Z Z Z Z Z Z Z (fun L9 => ⟨(Ic Mb6 In0), ?_⟩)
              refine Ao 16 Z ?_
              have wt := ((df.mono ac).mono an).mono cz
              refine Xj (T := Xf) (bytes := 88) (q := 0) Z Z Z wt Mb4 Z (SrcT.row Mb0 kB Z) B Z Z Z Z Z Z Z Z (fun dP EH g4 ws => ⟨_, (.there (.there (.there (.there .here)))), ⟨(Ic Mb6 In0), ?_⟩⟩)
              refine Aw.shift (Re0 (Sd ⟨(Ic Mb5 In0), ?_⟩))
              have fH := ((((g.mono ag).mono ac).mono an).mono cz).mono g4
              obtain ⟨I6, h2, qC⟩ := RowR.at fH h
              obtain ⟨Ma, rfl, HD⟩ := qC
              refine Xk 17 (by kernel_rfl) (Jyq Z (XB (T := (Ty.sl Xf)) Mb4 fH h2 (Xm h).1 Z Z Z Z Z) ⟨(Ic Mb5 In0), ?_⟩)
              refine Ao 18 Z ?_
              refine Xr (T := (Ty.sl Xf)) (vs := [(sv dP)]) (r' := [(sv dP)]) (l' := (Xz f b i)) Z Z Z Z Z (.there (.there (.there (.there .here)))) fH h2 Z Z Z (RowR.set b fH ⟨dP, Z, ws⟩) (fun pb => ⟨(Ic Mb5 In0), ?_⟩)
              have GP := XG h2 (v := [(sv dP)])
              refine Ad<|Pu4<|Pu6<|Pu6<|Pu3<|Re4<|Re4<|Re4<|?_
              have wu := (((dg.mono ac).mono an).mono cz).mono g4
              have wv := ((((z.mono ag).mono ac).mono an).mono cz).mono g4
              exact Sd ⟨_, by exact R2, j, k, e, p1.cnfg.starts, p1.cnfg.threads, c, (Xz f b i), (x.set b.toNat [(sv dP)]), w, p1.picks, Z, Z, H, wu, pb, wv⟩
             ·refine id (Jy Z ?_)
              refine OpW.shift (Shift.settle (T := Ty.i64) (.there (.there .here)) lU Z (fun nq ay ww => Sd ?_))
              have wx := lT.mono ay
              have hy : RowR Xf nq [(Xb a aU aV)] [a] := RowR.cons ⟨aU, aV, Z, wx, ww⟩ (RowR.nil)
              refine Xx (T := Xf) (rows := [(Xb a aU aV)]) (l := [a]) Z Z Z hy Z Z Z Z Z Z Z Z (fun Mb => ⟨(Ic Mb6 In0), ?_⟩)
              refine Xu 1 16 (by kernel_rfl) ?_ ?_
              ·refine id (Jyq Z (Xe (v := (sv c)) Z Z Z (Rb7 Z)) ⟨(Ic Mb6 In0), ?_⟩)
               refine Ao 16 Z ?_
               have wz := ((df.mono ac).mono an).mono ay
               refine Xj (T := Xf) (bytes := 88) (q := 0) Z Z Z wz Mb4 Z (SrcT.row Mb0 hy Z) B Z Z Z Z Z Z Z Z (fun dQ EI g5 wy => ⟨_, (.there (.there (.there (.there .here)))), ⟨(Ic Mb6 In0), ?_⟩⟩)
               refine Aw.shift (Re0 (Sd ⟨(Ic Mb5 In0), ?_⟩))
               have fI := ((((g.mono ag).mono ac).mono an).mono ay).mono g5
               obtain ⟨I7, h3, qD⟩ := RowR.at fI h
               obtain ⟨Mc, rfl, HE⟩ := qD
               refine Xk 17 (by kernel_rfl) (Jyq Z (XB (T := (Ty.sl Xf)) Mb4 fI h3 (Xm h).1 Z Z Z Z Z) ⟨(Ic Mb5 In0), ?_⟩)
               refine Ao 18 Z ?_
               refine Xr (T := (Ty.sl Xf)) (vs := [(sv dQ)]) (r' := [(sv dQ)]) (l' := (Xz f b i)) Z Z Z Z Z (.there (.there (.there (.there .here)))) fI h3 Z Z Z (RowR.set b fI ⟨dQ, Z, wy⟩) (fun pc => ⟨(Ic Mb5 In0), ?_⟩)
               have GQ := XG h3 (v := [(sv dQ)])
               refine Ad<|Pu4<|Pu6<|Pu6<|Pu3<|Re4<|Re4<|Re4<|?_
               have wA := (((dg.mono ac).mono an).mono ay).mono g5
               have wB := ((((z.mono ag).mono ac).mono an).mono ay).mono g5
               exact Sd ⟨_, by exact R2, j, k, e, p1.cnfg.starts, p1.cnfg.threads, c, (Xz f b i), (x.set b.toNat [(sv dQ)]), w, p1.picks, Z, Z, H, wA, pc, wB⟩
              ·refine id (Jy Z ?_)
               have wD := ((df.mono ac).mono an).mono ay
               refine Xj (T := Xf) (bytes := 88) (q := 0) Z Z Z wD Mb4 Z (SrcT.row Mb0 hy Z) B Z Z Z Z Z Z Z Z (fun dR EJ g6 wC => ⟨_, (.there (.there (.there (.there .here)))), ⟨(Ic Mb6 In0), ?_⟩⟩)
               refine Aw.shift (Re0 (Sd ⟨(Ic Mb5 In0), ?_⟩))
               refine Xk 1 (by kernel_rfl) (Jyq Z (Xe (v := (sv c)) Z Z Z (Rb6 Z)) ⟨(Ic Mb5 In0), ?_⟩)
               have fJ := ((((g.mono ag).mono ac).mono an).mono ay).mono g6
               obtain ⟨I8, h4, qE⟩ := RowR.at fJ h
               obtain ⟨Md, rfl, HF⟩ := qE
               refine Xk 17 (by kernel_rfl) (Jyq Z (XB (T := (Ty.sl Xf)) Mb4 fJ h4 (Xm h).1 Z Z Z Z Z) ⟨(Ic Mb5 In0), ?_⟩)
               refine Ao 18 Z ?_
               refine Xr (T := (Ty.sl Xf)) (vs := [(sv dR)]) (r' := [(sv dR)]) (l' := (Xz f b i)) Z Z Z Z Z (.there (.there (.there (.there .here)))) fJ h4 Z Z Z (RowR.set b fJ ⟨dR, Z, wC⟩) (fun pd => ⟨(Ic Mb5 In0), ?_⟩)
               have GR := XG h4 (v := [(sv dR)])
               refine Ad<|Pu4<|Pu6<|Pu6<|Pu3<|Re4<|Re4<|Re4<|?_
               have wE := (((dg.mono ac).mono an).mono ay).mono g6
               have wF := ((((z.mono ag).mono ac).mono an).mono ay).mono g6
               exact Sd ⟨_, by exact R2, j, k, e, p1.cnfg.starts, p1.cnfg.threads, c, (Xz f b i), (x.set b.toNat [(sv dR)]), w, p1.picks, Z, Z, H, wE, pd, wF⟩
        ·refine id (Jyq Z (X1 (m := 3) (cs := (Xl p1.cnfg t e)) Z Z Z Z ⟨Z, Rb3 Z⟩) ⟨(Ic Mb2 In0), ?_⟩)
         refine Xu 1 7 (by kernel_rfl) ?_ ?_
         ·refine id (Jyq Z (Xe (v := (sv c)) Z Z Z (Rb3 Z)) ⟨(Ic Mb2 In0), ?_⟩)
          refine Xk 7 (by kernel_rfl) (Jyq Z (Xe (v := (sv dA)) Z Z Z (XI (T := (Ty.sl Xf)) Mb1 g aP Z Z)) ⟨(Ic Mb2 In0), ?_⟩)
          refine Ao 8 Z ?_
          refine OpW.shift (Shift.nilTok1 70 7 (Sd ?_))
          refine Xj (T := Xf) (bytes := 88) (q := 0) Z Z Z (Slr.nil Xf _) Mb0 Z (SrcT.sl ar) P Z Z Z Z Z Z Z Z (fun Me EK cA wG => ⟨_, .here, ⟨(Ic Mb3 In0), ?_⟩⟩)
          refine Ao 13 Z ?_
          refine OpW.shift (Pu1 (Sd ?_))
          have lV := F.mono cA
          have wH := L.mono cA
          have lW := I.mono cA
          refine Ek Tryz.call40 Z (XT n (W8.mk p0.list N ((W8.mk p0.list D p0.value).value)) o p1.cnfg t e p r s O _ _ lV wH lW) ?_
          rintro _ EM _ cB ⟨Cb, Cc, rfl, rfl, wJ, wK⟩
          refine ⟨(Ic Mb3 In0), ?_⟩
          refine Ao 14 Z ?_
          have wL := lV.mono cB
          refine Ek Tryz.call39 Z (XL n (W8.mk p0.list r s) o p Cb Cc a j k J _ _ wL wJ wK) ?_
          rintro _ EN _ eC ⟨jG, jH, KO, rfl, rfl, wM, wN⟩
          refine ⟨(Ic Mb5 In0), ?_⟩
          refine Ao 15 Z ?_
          refine OpW.shift (Shift.settle (T := Ty.i64) (.there (.there .here)) wN Z (fun nr cC wO => Sd ?_))
          have wP := wM.mono cC
          have kC : RowR Xf nr [(Xb a jG jH)] [a] := RowR.cons ⟨jG, jH, Z, wP, wO⟩ (RowR.nil)
          refine Xx (T := Xf) (rows := [(Xb a jG jH)]) (l := [a]) Z Z Z kC Z Z Z Z Z Z Z Z (fun Mf => ⟨(Ic Mb6 In0), ?_⟩)
          refine Ao 16 Z ?_
          have wR := ((wG.mono cB).mono eC).mono cC
          refine Xj (T := Xf) (bytes := 88) (q := 0) Z Z Z wR Mb4 Z (SrcT.row Mb0 kC Z) B Z Z Z Z Z Z Z Z (fun dS EO g7 wQ => ⟨_, (.there (.there (.there (.there .here)))), ⟨(Ic Mb6 In0), ?_⟩⟩)
          refine Aw.shift (Re0 (Sd ⟨(Ic Mb5 In0), ?_⟩))
          have fK := ((((g.mono cA).mono cB).mono eC).mono cC).mono g7
          obtain ⟨I9, h5, qF⟩ := RowR.at fK h
          obtain ⟨Mg, rfl, HG⟩ := qF
          refine Xk 17 (by kernel_rfl) (Jyq Z (XB (T := (Ty.sl Xf)) Mb4 fK h5 (Xm h).1 Z Z Z Z Z) ⟨(Ic Mb5 In0), ?_⟩)
          refine Ao 18 Z ?_
          refine Xr (T := (Ty.sl Xf)) (vs := [(sv dS)]) (r' := [(sv dS)]) (l' := (Xz f b i)) Z Z Z Z Z (.there (.there (.there (.there .here)))) fK h5 Z Z Z (RowR.set b fK ⟨dS, Z, wQ⟩) (fun pe => ⟨(Ic Mb5 In0), ?_⟩)
          have GS := XG h5 (v := [(sv dS)])
          refine Ad<|Pu4<|Pu6<|Pu6<|Pu3<|Re4<|Re4<|Re4<|?_
          have wS := (((lW.mono cB).mono eC).mono cC).mono g7
          have wT := ((((z.mono cA).mono cB).mono eC).mono cC).mono g7
          exact Sd ⟨_, by exact R2, j, k, e, p1.cnfg.starts, p1.cnfg.threads, c, (Xz f b i), (x.set b.toNat [(sv dS)]), w, p1.picks, Z, Z, H, wS, pe, wT⟩
         ·refine id (Jyq Z (Xe (v := (sv dA)) Z Z Z (XI (T := (Ty.sl Xf)) Mb1 g aP Z Z)) ⟨(Ic Mb2 In0), ?_⟩)
          refine Xu 1 8 (by kernel_rfl) ?_ ?_
          ·refine id (Jyq Z (Xe (v := (sv c)) Z Z Z (Rb3 Z)) ⟨(Ic Mb2 In0), ?_⟩)
           refine Ao 8 Z ?_
           refine OpW.shift (Shift.nilTok1 70 7 (Sd ?_))
           refine Xj (T := Xf) (bytes := 88) (q := 0) Z Z Z (Slr.nil Xf _) Mb0 Z (SrcT.sl ar) P Z Z Z Z Z Z Z Z (fun Mh EP cD wU => ⟨_, .here, ⟨(Ic Mb3 In0), ?_⟩⟩)
           refine Ao 13 Z ?_
           refine OpW.shift (Pu1 (Sd ?_))
           have lX := F.mono cD
           have wV := L.mono cD
           have lY := I.mono cD
           refine Ek Tryz.call40 Z (XT n (W8.mk p0.list N ((W8.mk p0.list D p0.value).value)) o p1.cnfg t e p r s O _ _ lX wV lY) ?_
           rintro _ EQ _ cE ⟨Cd, Ce, rfl, rfl, wW, wX⟩
           refine ⟨(Ic Mb3 In0), ?_⟩
           refine Ao 14 Z ?_
           have wY := lX.mono cE
           refine Ek Tryz.call39 Z (XL n (W8.mk p0.list r s) o p Cd Ce a j k J _ _ wY wW wX) ?_
           rintro _ ER _ eD ⟨jI, jJ, KP, rfl, rfl, wZ, w0⟩
           refine ⟨(Ic Mb5 In0), ?_⟩
           refine Ao 15 Z ?_
           refine OpW.shift (Shift.settle (T := Ty.i64) (.there (.there .here)) w0 Z (fun ns cF w1 => Sd ?_))
           have w2 := wZ.mono cF
           have kD : RowR Xf ns [(Xb a jI jJ)] [a] := RowR.cons ⟨jI, jJ, Z, w2, w1⟩ (RowR.nil)
           refine Xx (T := Xf) (rows := [(Xb a jI jJ)]) (l := [a]) Z Z Z kD Z Z Z Z Z Z Z Z (fun Mi => ⟨(Ic Mb6 In0), ?_⟩)
           refine Ao 16 Z ?_
           have w4 := ((wU.mono cE).mono eD).mono cF
           refine Xj (T := Xf) (bytes := 88) (q := 0) Z Z Z w4 Mb4 Z (SrcT.row Mb0 kD Z) B Z Z Z Z Z Z Z Z (fun dT ES g8 w3 => ⟨_, (.there (.there (.there (.there .here)))), ⟨(Ic Mb6 In0), ?_⟩⟩)
           refine Aw.shift (Re0 (Sd ⟨(Ic Mb5 In0), ?_⟩))
           have fL := ((((g.mono cD).mono cE).mono eD).mono cF).mono g8
           obtain ⟨Ja, h6, qG⟩ := RowR.at fL h
           obtain ⟨Mj, rfl, HH⟩ := qG
           refine Xk 17 (by kernel_rfl) (Jyq Z (XB (T := (Ty.sl Xf)) Mb4 fL h6 (Xm h).1 Z Z Z Z Z) ⟨(Ic Mb5 In0), ?_⟩)
           refine Ao 18 Z ?_
           refine Xr (T := (Ty.sl Xf)) (vs := [(sv dT)]) (r' := [(sv dT)]) (l' := (Xz f b i)) Z Z Z Z Z (.there (.there (.there (.there .here)))) fL h6 Z Z Z (RowR.set b fL ⟨dT, Z, w3⟩) (fun pf => ⟨(Ic Mb5 In0), ?_⟩)
           have GT := XG h6 (v := [(sv dT)])
           refine Ad<|Pu4<|Pu6<|Pu6<|Pu3<|Re4<|Re4<|Re4<|?_
           have w5 := (((lY.mono cE).mono eD).mono cF).mono g8
           have w6 := ((((z.mono cD).mono cE).mono eD).mono cF).mono g8
           exact Sd ⟨_, by exact R2, j, k, e, p1.cnfg.starts, p1.cnfg.threads, c, (Xz f b i), (x.set b.toNat [(sv dT)]), w, p1.picks, Z, Z, H, w5, pf, w6⟩
          ·refine id (Jy Z ?_)
           refine OpW.shift (Shift.nilTok1 70 7 (Sd ?_))
           refine Xj (T := Xf) (bytes := 88) (q := 0) Z Z Z (Slr.nil Xf _) Mb0 Z (SrcT.sl ar) P Z Z Z Z Z Z Z Z (fun Mk ET ah dh => ⟨_, .here, ⟨(Ic Mb3 In0), ?_⟩⟩)
           refine Xu 1 13 (by kernel_rfl) ?_ ?_
           ·refine id (Jyq Z (Xe (v := (sv c)) Z Z Z (Rb4 Z)) ⟨(Ic Mb3 In0), ?_⟩)
            refine Ao 13 Z ?_
            refine OpW.shift (Pu1 (Sd ?_))
            have lZ := F.mono ah
            have w7 := L.mono ah
            have l0 := I.mono ah
            refine Ek Tryz.call40 Z (XT n (W8.mk p0.list N ((W8.mk p0.list D p0.value).value)) o p1.cnfg t e p r s O _ _ lZ w7 l0) ?_
            rintro _ EU _ cG ⟨Cf, Cg, rfl, rfl, w8, w9⟩
            refine ⟨(Ic Mb3 In0), ?_⟩
            refine Ao 14 Z ?_
            have xa := lZ.mono cG
            refine Ek Tryz.call39 Z (XL n (W8.mk p0.list r s) o p Cf Cg a j k J _ _ xa w8 w9) ?_
            rintro _ EV _ eE ⟨jK, jL, KQ, rfl, rfl, xb, xc⟩
            refine ⟨(Ic Mb5 In0), ?_⟩
            refine Ao 15 Z ?_
            refine OpW.shift (Shift.settle (T := Ty.i64) (.there (.there .here)) xc Z (fun nt cH xd => Sd ?_))
            have xe := xb.mono cH
            have kE : RowR Xf nt [(Xb a jK jL)] [a] := RowR.cons ⟨jK, jL, Z, xe, xd⟩ (RowR.nil)
            refine Xx (T := Xf) (rows := [(Xb a jK jL)]) (l := [a]) Z Z Z kE Z Z Z Z Z Z Z Z (fun Ml => ⟨(Ic Mb6 In0), ?_⟩)
            refine Ao 16 Z ?_
            have xg := ((dh.mono cG).mono eE).mono cH
            refine Xj (T := Xf) (bytes := 88) (q := 0) Z Z Z xg Mb4 Z (SrcT.row Mb0 kE Z) B Z Z Z Z Z Z Z Z (fun dU EW g9 xf => ⟨_, (.there (.there (.there (.there .here)))), ⟨(Ic Mb6 In0), ?_⟩⟩)
            refine Aw.shift (Re0 (Sd ⟨(Ic Mb5 In0), ?_⟩))
            have fM := ((((g.mono ah).mono cG).mono eE).mono cH).mono g9
            obtain ⟨Jb, h7, qH⟩ := RowR.at fM h
            obtain ⟨Mm, rfl, HI⟩ := qH
            refine Xk 17 (by kernel_rfl) (Jyq Z (XB (T := (Ty.sl Xf)) Mb4 fM h7 (Xm h).1 Z Z Z Z Z) ⟨(Ic Mb5 In0), ?_⟩)
            refine Ao 18 Z ?_
            refine Xr (T := (Ty.sl Xf)) (vs := [(sv dU)]) (r' := [(sv dU)]) (l' := (Xz f b i)) Z Z Z Z Z (.there (.there (.there (.there .here)))) fM h7 Z Z Z (RowR.set b fM ⟨dU, Z, xf⟩) (fun pg => ⟨(Ic Mb5 In0), ?_⟩)
            have GU := XG h7 (v := [(sv dU)])
            refine Ad<|Pu4<|Pu6<|Pu6<|Pu3<|Re4<|Re4<|Re4<|?_
            have xh := (((l0.mono cG).mono eE).mono cH).mono g9
            have xi := ((((z.mono ah).mono cG).mono eE).mono cH).mono g9
            exact Sd ⟨_, by exact R2, j, k, e, p1.cnfg.starts, p1.cnfg.threads, c, (Xz f b i), (x.set b.toNat [(sv dU)]), w, p1.picks, Z, Z, H, xh, pg, xi⟩
           ·refine id (Jy Z ?_)
            refine OpW.shift (Pu1 (Sd ?_))
            have iQ := F.mono ah
            have xj := L.mono ah
            have di := I.mono ah
            refine Ek Tryz.call40 Z (XT n (W8.mk p0.list N ((W8.mk p0.list D p0.value).value)) o p1.cnfg t e p r s O _ _ iQ xj di) ?_
            rintro _ EX _ ad ⟨mH, mI, rfl, rfl, l1, l2⟩
            refine ⟨(Ic Mb3 In0), ?_⟩
            refine Xu 1 14 (by kernel_rfl) ?_ ?_
            ·refine id (Jyq Z (Xe (v := (sv c)) Z Z Z (Rb4 Z)) ⟨(Ic Mb3 In0), ?_⟩)
             refine Ao 14 Z ?_
             have xk := iQ.mono ad
             refine Ek Tryz.call39 Z (XL n (W8.mk p0.list r s) o p mH mI a j k J _ _ xk l1 l2) ?_
             rintro _ EY _ eF ⟨jM, jN, KR, rfl, rfl, xl, xm⟩
             refine ⟨(Ic Mb5 In0), ?_⟩
             refine Ao 15 Z ?_
             refine OpW.shift (Shift.settle (T := Ty.i64) (.there (.there .here)) xm Z (fun nu cI xn => Sd ?_))
             have xo := xl.mono cI
             have kF : RowR Xf nu [(Xb a jM jN)] [a] := RowR.cons ⟨jM, jN, Z, xo, xn⟩ (RowR.nil)
             refine Xx (T := Xf) (rows := [(Xb a jM jN)]) (l := [a]) Z Z Z kF Z Z Z Z Z Z Z Z (fun Mn => ⟨(Ic Mb6 In0), ?_⟩)
             refine Ao 16 Z ?_
             have xq := ((dh.mono ad).mono eF).mono cI
             refine Xj (T := Xf) (bytes := 88) (q := 0) Z Z Z xq Mb4 Z (SrcT.row Mb0 kF Z) B Z Z Z Z Z Z Z Z (fun dV EZ ha xp => ⟨_, (.there (.there (.there (.there .here)))), ⟨(Ic Mb6 In0), ?_⟩⟩)
             refine Aw.shift (Re0 (Sd ⟨(Ic Mb5 In0), ?_⟩))
             have fN := ((((g.mono ah).mono ad).mono eF).mono cI).mono ha
             obtain ⟨Jd, h8, qI⟩ := RowR.at fN h
             obtain ⟨Mo, rfl, HJ⟩ := qI
             refine Xk 17 (by kernel_rfl) (Jyq Z (XB (T := (Ty.sl Xf)) Mb4 fN h8 (Xm h).1 Z Z Z Z Z) ⟨(Ic Mb5 In0), ?_⟩)
             refine Ao 18 Z ?_
             refine Xr (T := (Ty.sl Xf)) (vs := [(sv dV)]) (r' := [(sv dV)]) (l' := (Xz f b i)) Z Z Z Z Z (.there (.there (.there (.there .here)))) fN h8 Z Z Z (RowR.set b fN ⟨dV, Z, xp⟩) (fun ph => ⟨(Ic Mb5 In0), ?_⟩)
             have GV := XG h8 (v := [(sv dV)])
             refine Ad<|Pu4<|Pu6<|Pu6<|Pu3<|Re4<|Re4<|Re4<|?_
             have xr := (((di.mono ad).mono eF).mono cI).mono ha
             have xs := ((((z.mono ah).mono ad).mono eF).mono cI).mono ha
             exact Sd ⟨_, by exact R2, j, k, e, p1.cnfg.starts, p1.cnfg.threads, c, (Xz f b i), (x.set b.toNat [(sv dV)]), w, p1.picks, Z, Z, H, xr, ph, xs⟩
            ·refine id (Jy Z ?_)
             have xt := iQ.mono ad
             refine Ek Tryz.call39 Z (XL n (W8.mk p0.list r s) o p mH mI a j k J _ _ xt l1 l2) ?_
             rintro _ E0 _ ao ⟨aW, aX, KS, rfl, rfl, l3, l4⟩
             refine ⟨(Ic Mb5 In0), ?_⟩
             refine Xu 1 15 (by kernel_rfl) ?_ ?_
             ·refine id (Jyq Z (Xe (v := (sv c)) Z Z Z (Rb6 Z)) ⟨(Ic Mb5 In0), ?_⟩)
              refine Ao 15 Z ?_
              refine OpW.shift (Shift.settle (T := Ty.i64) (.there (.there .here)) l4 Z (fun nv cJ xu => Sd ?_))
              have xv := l3.mono cJ
              have kG : RowR Xf nv [(Xb a aW aX)] [a] := RowR.cons ⟨aW, aX, Z, xv, xu⟩ (RowR.nil)
              refine Xx (T := Xf) (rows := [(Xb a aW aX)]) (l := [a]) Z Z Z kG Z Z Z Z Z Z Z Z (fun Mp => ⟨(Ic Mb6 In0), ?_⟩)
              refine Ao 16 Z ?_
              have xx := ((dh.mono ad).mono ao).mono cJ
              refine Xj (T := Xf) (bytes := 88) (q := 0) Z Z Z xx Mb4 Z (SrcT.row Mb0 kG Z) B Z Z Z Z Z Z Z Z (fun dW E1 hb xw => ⟨_, (.there (.there (.there (.there .here)))), ⟨(Ic Mb6 In0), ?_⟩⟩)
              refine Aw.shift (Re0 (Sd ⟨(Ic Mb5 In0), ?_⟩))
              have fO := ((((g.mono ah).mono ad).mono ao).mono cJ).mono hb
              obtain ⟨Je, h9, qJ⟩ := RowR.at fO h
              obtain ⟨Mq, rfl, HK⟩ := qJ
              refine Xk 17 (by kernel_rfl) (Jyq Z (XB (T := (Ty.sl Xf)) Mb4 fO h9 (Xm h).1 Z Z Z Z Z) ⟨(Ic Mb5 In0), ?_⟩)
              refine Ao 18 Z ?_
              refine Xr (T := (Ty.sl Xf)) (vs := [(sv dW)]) (r' := [(sv dW)]) (l' := (Xz f b i)) Z Z Z Z Z (.there (.there (.there (.there .here)))) fO h9 Z Z Z (RowR.set b fO ⟨dW, Z, xw⟩) (fun pi => ⟨(Ic Mb5 In0), ?_⟩)
              have GW := XG h9 (v := [(sv dW)])
              refine Ad<|Pu4<|Pu6<|Pu6<|Pu3<|Re4<|Re4<|Re4<|?_
              have xy := (((di.mono ad).mono ao).mono cJ).mono hb
              have xz := ((((z.mono ah).mono ad).mono ao).mono cJ).mono hb
              exact Sd ⟨_, by exact R2, j, k, e, p1.cnfg.starts, p1.cnfg.threads, c, (Xz f b i), (x.set b.toNat [(sv dW)]), w, p1.picks, Z, Z, H, xy, pi, xz⟩
             ·refine id (Jy Z ?_)
              refine OpW.shift (Shift.settle (T := Ty.i64) (.there (.there .here)) l4 Z (fun nw az xA => Sd ?_))
              have xB := l3.mono az
              have hz : RowR Xf nw [(Xb a aW aX)] [a] := RowR.cons ⟨aW, aX, Z, xB, xA⟩ (RowR.nil)
              refine Xx (T := Xf) (rows := [(Xb a aW aX)]) (l := [a]) Z Z Z hz Z Z Z Z Z Z Z Z (fun Mr => ⟨(Ic Mb6 In0), ?_⟩)
              refine Xu 1 16 (by kernel_rfl) ?_ ?_
              ·refine id (Jyq Z (Xe (v := (sv c)) Z Z Z (Rb7 Z)) ⟨(Ic Mb6 In0), ?_⟩)
               refine Ao 16 Z ?_
               have xD := ((dh.mono ad).mono ao).mono az
               refine Xj (T := Xf) (bytes := 88) (q := 0) Z Z Z xD Mb4 Z (SrcT.row Mb0 hz Z) B Z Z Z Z Z Z Z Z (fun dX E2 hc xC => ⟨_, (.there (.there (.there (.there .here)))), ⟨(Ic Mb6 In0), ?_⟩⟩)
               refine Aw.shift (Re0 (Sd ⟨(Ic Mb5 In0), ?_⟩))
               have fP := ((((g.mono ah).mono ad).mono ao).mono az).mono hc
               obtain ⟨Jf, ia, qK⟩ := RowR.at fP h
               obtain ⟨Ms, rfl, HL⟩ := qK
               refine Xk 17 (by kernel_rfl) (Jyq Z (XB (T := (Ty.sl Xf)) Mb4 fP ia (Xm h).1 Z Z Z Z Z) ⟨(Ic Mb5 In0), ?_⟩)
               refine Ao 18 Z ?_
               refine Xr (T := (Ty.sl Xf)) (vs := [(sv dX)]) (r' := [(sv dX)]) (l' := (Xz f b i)) Z Z Z Z Z (.there (.there (.there (.there .here)))) fP ia Z Z Z (RowR.set b fP ⟨dX, Z, xC⟩) (fun pj => ⟨(Ic Mb5 In0), ?_⟩)
               have GX := XG ia (v := [(sv dX)])
               refine Ad<|Pu4<|Pu6<|Pu6<|Pu3<|Re4<|Re4<|Re4<|?_
               have xE := (((di.mono ad).mono ao).mono az).mono hc
               have xF := ((((z.mono ah).mono ad).mono ao).mono az).mono hc
               exact Sd ⟨_, by exact R2, j, k, e, p1.cnfg.starts, p1.cnfg.threads, c, (Xz f b i), (x.set b.toNat [(sv dX)]), w, p1.picks, Z, Z, H, xE, pj, xF⟩
              ·refine id (Jy Z ?_)
               have xH := ((dh.mono ad).mono ao).mono az
               refine Xj (T := Xf) (bytes := 88) (q := 0) Z Z Z xH Mb4 Z (SrcT.row Mb0 hz Z) B Z Z Z Z Z Z Z Z (fun dY E3 hd xG => ⟨_, (.there (.there (.there (.there .here)))), ⟨(Ic Mb6 In0), ?_⟩⟩)
               refine Aw.shift (Re0 (Sd ⟨(Ic Mb5 In0), ?_⟩))
               refine Xk 1 (by kernel_rfl) (Jyq Z (Xe (v := (sv c)) Z Z Z (Rb6 Z)) ⟨(Ic Mb5 In0), ?_⟩)
               have fQ := ((((g.mono ah).mono ad).mono ao).mono az).mono hd
               obtain ⟨Jg, ib, qL⟩ := RowR.at fQ h
               obtain ⟨Mt, rfl, HM⟩ := qL
               refine Xk 17 (by kernel_rfl) (Jyq Z (XB (T := (Ty.sl Xf)) Mb4 fQ ib (Xm h).1 Z Z Z Z Z) ⟨(Ic Mb5 In0), ?_⟩)
               refine Ao 18 Z ?_
               refine Xr (T := (Ty.sl Xf)) (vs := [(sv dY)]) (r' := [(sv dY)]) (l' := (Xz f b i)) Z Z Z Z Z (.there (.there (.there (.there .here)))) fQ ib Z Z Z (RowR.set b fQ ⟨dY, Z, xG⟩) (fun pk => ⟨(Ic Mb5 In0), ?_⟩)
               have GY := XG ib (v := [(sv dY)])
               refine Ad<|Pu4<|Pu6<|Pu6<|Pu3<|Re4<|Re4<|Re4<|?_
               have xI := (((di.mono ad).mono ao).mono az).mono hd
               have xJ := ((((z.mono ah).mono ad).mono ao).mono az).mono hd
               exact Sd ⟨_, by exact R2, j, k, e, p1.cnfg.starts, p1.cnfg.threads, c, (Xz f b i), (x.set b.toNat [(sv dY)]), w, p1.picks, Z, Z, H, xI, pk, xJ⟩
       ·refine id (Jyq Z (X1 (m := 3) (cs := (Xl p1.cnfg t e)) Z Z Z Z ⟨Z, Rb3 Z⟩) ⟨(Ic Mb2 In0), ?_⟩)
        refine Xu 1 6 (by kernel_rfl) ?_ ?_
        ·refine id (Jyq Z (Xe (v := (sv c)) Z Z Z (Rb3 Z)) ⟨(Ic Mb2 In0), ?_⟩)
         obtain ⟨Jh, k8, qM⟩ := RowR.at g X
         obtain ⟨Ch, rfl, xK⟩ := qM
         refine Xk 6 (by kernel_rfl) (Jyq Z (XB (T := (Ty.sl Xf)) Mb1 g k8 (Xm X).1 Z Z Z Z Z) ⟨(Ic Mb2 In0), ?_⟩)
         refine Xk 7 (by kernel_rfl) (Jyq Z (Xe (v := (sv Ch)) Z Z Z (XI (T := (Ty.sl Xf)) Mb1 g k8 Z Z)) ⟨(Ic Mb2 In0), ?_⟩)
         refine Ao 8 Z ?_
         refine OpW.shift (Shift.nilTok1 70 7 (Sd ?_))
         refine Xj (T := Xf) (bytes := 88) (q := 0) Z Z Z (Slr.nil Xf _) Mb0 Z (SrcT.sl xK) P Z Z Z Z Z Z Z Z (fun Mu E4 cK xL => ⟨_, .here, ⟨(Ic Mb3 In0), ?_⟩⟩)
         refine Ao 13 Z ?_
         refine OpW.shift (Pu1 (Sd ?_))
         have l5 := F.mono cK
         have xM := L.mono cK
         have l6 := I.mono cK
         refine Ek Tryz.call40 Z (XT n (W8.mk p0.list N ((W8.mk p0.list D p0.value).value)) o p1.cnfg t e p r s O _ _ l5 xM l6) ?_
         rintro _ E5 _ cL ⟨Ci, Cj, rfl, rfl, xN, xO⟩
         refine ⟨(Ic Mb3 In0), ?_⟩
         refine Ao 14 Z ?_
         have xP := l5.mono cL
         refine Ek Tryz.call39 Z (XL n (W8.mk p0.list r s) o p Ci Cj a j k J _ _ xP xN xO) ?_
         rintro _ E6 _ eG ⟨jO, jP, KT, rfl, rfl, xQ, xR⟩
         refine ⟨(Ic Mb5 In0), ?_⟩
         refine Ao 15 Z ?_
         refine OpW.shift (Shift.settle (T := Ty.i64) (.there (.there .here)) xR Z (fun nx cM xS => Sd ?_))
         have xT := xQ.mono cM
         have kH : RowR Xf nx [(Xb a jO jP)] [a] := RowR.cons ⟨jO, jP, Z, xT, xS⟩ (RowR.nil)
         refine Xx (T := Xf) (rows := [(Xb a jO jP)]) (l := [a]) Z Z Z kH Z Z Z Z Z Z Z Z (fun Mv => ⟨(Ic Mb6 In0), ?_⟩)
         refine Ao 16 Z ?_
         have xV := ((xL.mono cL).mono eG).mono cM
         refine Xj (T := Xf) (bytes := 88) (q := 0) Z Z Z xV Mb4 Z (SrcT.row Mb0 kH Z) B Z Z Z Z Z Z Z Z (fun dZ E7 he xU => ⟨_, (.there (.there (.there (.there .here)))), ⟨(Ic Mb6 In0), ?_⟩⟩)
         refine Aw.shift (Re0 (Sd ⟨(Ic Mb5 In0), ?_⟩))
         have fR := ((((g.mono cK).mono cL).mono eG).mono cM).mono he
         obtain ⟨Ji, ic, qN⟩ := RowR.at fR h
         obtain ⟨Mw, rfl, HN⟩ := qN
         refine Xk 17 (by kernel_rfl) (Jyq Z (XB (T := (Ty.sl Xf)) Mb4 fR ic (Xm h).1 Z Z Z Z Z) ⟨(Ic Mb5 In0), ?_⟩)
         refine Ao 18 Z ?_
         refine Xr (T := (Ty.sl Xf)) (vs := [(sv dZ)]) (r' := [(sv dZ)]) (l' := (Xz f b i)) Z Z Z Z Z (.there (.there (.there (.there .here)))) fR ic Z Z Z (RowR.set b fR ⟨dZ, Z, xU⟩) (fun pl => ⟨(Ic Mb5 In0), ?_⟩)
         have GZ := XG ic (v := [(sv dZ)])
         refine Ad<|Pu4<|Pu6<|Pu6<|Pu3<|Re4<|Re4<|Re4<|?_
         have xW := (((l6.mono cL).mono eG).mono cM).mono he
         have xX := ((((z.mono cK).mono cL).mono eG).mono cM).mono he
         exact Sd ⟨_, by exact R2, j, k, e, p1.cnfg.starts, p1.cnfg.threads, c, (Xz f b i), (x.set b.toNat [(sv dZ)]), w, p1.picks, Z, Z, H, xW, pl, xX⟩
        ·obtain ⟨Jj, ie, qO⟩ := RowR.at g X
         obtain ⟨mJ, rfl, iR⟩ := qO
         refine id (Jyq Z (XB (T := (Ty.sl Xf)) Mb1 g ie (Xm X).1 Z Z Z Z Z) ⟨(Ic Mb2 In0), ?_⟩)
         refine Xu 1 7 (by kernel_rfl) ?_ ?_
         ·refine id (Jyq Z (Xe (v := (sv c)) Z Z Z (Rb3 Z)) ⟨(Ic Mb2 In0), ?_⟩)
          refine Xk 7 (by kernel_rfl) (Jyq Z (Xe (v := (sv mJ)) Z Z Z (XI (T := (Ty.sl Xf)) Mb1 g ie Z Z)) ⟨(Ic Mb2 In0), ?_⟩)
          refine Ao 8 Z ?_
          refine OpW.shift (Shift.nilTok1 70 7 (Sd ?_))
          refine Xj (T := Xf) (bytes := 88) (q := 0) Z Z Z (Slr.nil Xf _) Mb0 Z (SrcT.sl iR) P Z Z Z Z Z Z Z Z (fun Mx E8 cN xY => ⟨_, .here, ⟨(Ic Mb3 In0), ?_⟩⟩)
          refine Ao 13 Z ?_
          refine OpW.shift (Pu1 (Sd ?_))
          have l7 := F.mono cN
          have xZ := L.mono cN
          have l8 := I.mono cN
          refine Ek Tryz.call40 Z (XT n (W8.mk p0.list N ((W8.mk p0.list D p0.value).value)) o p1.cnfg t e p r s O _ _ l7 xZ l8) ?_
          rintro _ E9 _ cO ⟨Ck, Cl, rfl, rfl, x0, x1⟩
          refine ⟨(Ic Mb3 In0), ?_⟩
          refine Ao 14 Z ?_
          have x2 := l7.mono cO
          refine Ek Tryz.call39 Z (XL n (W8.mk p0.list r s) o p Ck Cl a j k J _ _ x2 x0 x1) ?_
          rintro _ Fa _ eH ⟨jQ, jR, KU, rfl, rfl, x3, x4⟩
          refine ⟨(Ic Mb5 In0), ?_⟩
          refine Ao 15 Z ?_
          refine OpW.shift (Shift.settle (T := Ty.i64) (.there (.there .here)) x4 Z (fun ny cP x5 => Sd ?_))
          have x6 := x3.mono cP
          have kI : RowR Xf ny [(Xb a jQ jR)] [a] := RowR.cons ⟨jQ, jR, Z, x6, x5⟩ (RowR.nil)
          refine Xx (T := Xf) (rows := [(Xb a jQ jR)]) (l := [a]) Z Z Z kI Z Z Z Z Z Z Z Z (fun My => ⟨(Ic Mb6 In0), ?_⟩)
          refine Ao 16 Z ?_
          have x8 := ((xY.mono cO).mono eH).mono cP
          refine Xj (T := Xf) (bytes := 88) (q := 0) Z Z Z x8 Mb4 Z (SrcT.row Mb0 kI Z) B Z Z Z Z Z Z Z Z (fun d0 Fb hf x7 => ⟨_, (.there (.there (.there (.there .here)))), ⟨(Ic Mb6 In0), ?_⟩⟩)
          refine Aw.shift (Re0 (Sd ⟨(Ic Mb5 In0), ?_⟩))
          have fS := ((((g.mono cN).mono cO).mono eH).mono cP).mono hf
          obtain ⟨Jk, ig, qP⟩ := RowR.at fS h
          obtain ⟨Mz, rfl, HO⟩ := qP
          refine Xk 17 (by kernel_rfl) (Jyq Z (XB (T := (Ty.sl Xf)) Mb4 fS ig (Xm h).1 Z Z Z Z Z) ⟨(Ic Mb5 In0), ?_⟩)
          refine Ao 18 Z ?_
          refine Xr (T := (Ty.sl Xf)) (vs := [(sv d0)]) (r' := [(sv d0)]) (l' := (Xz f b i)) Z Z Z Z Z (.there (.there (.there (.there .here)))) fS ig Z Z Z (RowR.set b fS ⟨d0, Z, x7⟩) (fun pm => ⟨(Ic Mb5 In0), ?_⟩)
          have G0 := XG ig (v := [(sv d0)])
          refine Ad<|Pu4<|Pu6<|Pu6<|Pu3<|Re4<|Re4<|Re4<|?_
          have x9 := (((l8.mono cO).mono eH).mono cP).mono hf
          have ya := ((((z.mono cN).mono cO).mono eH).mono cP).mono hf
          exact Sd ⟨_, by exact R2, j, k, e, p1.cnfg.starts, p1.cnfg.threads, c, (Xz f b i), (x.set b.toNat [(sv d0)]), w, p1.picks, Z, Z, H, x9, pm, ya⟩
         ·refine id (Jyq Z (Xe (v := (sv mJ)) Z Z Z (XI (T := (Ty.sl Xf)) Mb1 g ie Z Z)) ⟨(Ic Mb2 In0), ?_⟩)
          refine Xu 1 8 (by kernel_rfl) ?_ ?_
          ·refine id (Jyq Z (Xe (v := (sv c)) Z Z Z (Rb3 Z)) ⟨(Ic Mb2 In0), ?_⟩)
           refine Ao 8 Z ?_
           refine OpW.shift (Shift.nilTok1 70 7 (Sd ?_))
           refine Xj (T := Xf) (bytes := 88) (q := 0) Z Z Z (Slr.nil Xf _) Mb0 Z (SrcT.sl iR) P Z Z Z Z Z Z Z Z (fun MA Fd cQ yb => ⟨_, .here, ⟨(Ic Mb3 In0), ?_⟩⟩)
           refine Ao 13 Z ?_
           refine OpW.shift (Pu1 (Sd ?_))
           have l9 := F.mono cQ
           have yc := L.mono cQ
           have ma := I.mono cQ
           refine Ek Tryz.call40 Z (XT n (W8.mk p0.list N ((W8.mk p0.list D p0.value).value)) o p1.cnfg t e p r s O _ _ l9 yc ma) ?_
           rintro _ Fe _ cR ⟨Cm, Cn, rfl, rfl, yd, ye⟩
           refine ⟨(Ic Mb3 In0), ?_⟩
           refine Ao 14 Z ?_
           have yf := l9.mono cR
           refine Ek Tryz.call39 Z (XL n (W8.mk p0.list r s) o p Cm Cn a j k J _ _ yf yd ye) ?_
           rintro _ Ff _ eI ⟨jS, jT, KV, rfl, rfl, yg, yh⟩
           refine ⟨(Ic Mb5 In0), ?_⟩
           refine Ao 15 Z ?_
           refine OpW.shift (Shift.settle (T := Ty.i64) (.there (.there .here)) yh Z (fun nz cS yi => Sd ?_))
           have yj := yg.mono cS
           have kJ : RowR Xf nz [(Xb a jS jT)] [a] := RowR.cons ⟨jS, jT, Z, yj, yi⟩ (RowR.nil)
           refine Xx (T := Xf) (rows := [(Xb a jS jT)]) (l := [a]) Z Z Z kJ Z Z Z Z Z Z Z Z (fun MB => ⟨(Ic Mb6 In0), ?_⟩)
           refine Ao 16 Z ?_
           have yl := ((yb.mono cR).mono eI).mono cS
           refine Xj (T := Xf) (bytes := 88) (q := 0) Z Z Z yl Mb4 Z (SrcT.row Mb0 kJ Z) B Z Z Z Z Z Z Z Z (fun d1 Fg hg yk => ⟨_, (.there (.there (.there (.there .here)))), ⟨(Ic Mb6 In0), ?_⟩⟩)
           refine Aw.shift (Re0 (Sd ⟨(Ic Mb5 In0), ?_⟩))
           have fT := ((((g.mono cQ).mono cR).mono eI).mono cS).mono hg
           obtain ⟨Jn, ih, qQ⟩ := RowR.at fT h
           obtain ⟨MC, rfl, HP⟩ := qQ
           refine Xk 17 (by kernel_rfl) (Jyq Z (XB (T := (Ty.sl Xf)) Mb4 fT ih (Xm h).1 Z Z Z Z Z) ⟨(Ic Mb5 In0), ?_⟩)
           refine Ao 18 Z ?_
           refine Xr (T := (Ty.sl Xf)) (vs := [(sv d1)]) (r' := [(sv d1)]) (l' := (Xz f b i)) Z Z Z Z Z (.there (.there (.there (.there .here)))) fT ih Z Z Z (RowR.set b fT ⟨d1, Z, yk⟩) (fun pn => ⟨(Ic Mb5 In0), ?_⟩)
           have G1 := XG ih (v := [(sv d1)])
           refine Ad<|Pu4<|Pu6<|Pu6<|Pu3<|Re4<|Re4<|Re4<|?_
           have ym := (((ma.mono cR).mono eI).mono cS).mono hg
           have yn := ((((z.mono cQ).mono cR).mono eI).mono cS).mono hg
           exact Sd ⟨_, by exact R2, j, k, e, p1.cnfg.starts, p1.cnfg.threads, c, (Xz f b i), (x.set b.toNat [(sv d1)]), w, p1.picks, Z, Z, H, ym, pn, yn⟩
          ·refine id (Jy Z ?_)
           refine OpW.shift (Shift.nilTok1 70 7 (Sd ?_))
           refine Xj (T := Xf) (bytes := 88) (q := 0) Z Z Z (Slr.nil Xf _) Mb0 Z (SrcT.sl iR) P Z Z Z Z Z Z Z Z (fun MD Fh ai dj => ⟨_, .here, ⟨(Ic Mb3 In0), ?_⟩⟩)
           refine Xu 1 13 (by kernel_rfl) ?_ ?_
           ·refine id (Jyq Z (Xe (v := (sv c)) Z Z Z (Rb4 Z)) ⟨(Ic Mb3 In0), ?_⟩)
            refine Ao 13 Z ?_
            refine OpW.shift (Pu1 (Sd ?_))
            have mb := F.mono ai
            have yo := L.mono ai
            have mc := I.mono ai
            refine Ek Tryz.call40 Z (XT n (W8.mk p0.list N ((W8.mk p0.list D p0.value).value)) o p1.cnfg t e p r s O _ _ mb yo mc) ?_
            rintro _ Fi _ cT ⟨Co, Cp, rfl, rfl, yp, yq⟩
            refine ⟨(Ic Mb3 In0), ?_⟩
            refine Ao 14 Z ?_
            have yr := mb.mono cT
            refine Ek Tryz.call39 Z (XL n (W8.mk p0.list r s) o p Co Cp a j k J _ _ yr yp yq) ?_
            rintro _ Fj _ eJ ⟨jU, jV, KW, rfl, rfl, ys, yt⟩
            refine ⟨(Ic Mb5 In0), ?_⟩
            refine Ao 15 Z ?_
            refine OpW.shift (Shift.settle (T := Ty.i64) (.there (.there .here)) yt Z (fun nA cU yu => Sd ?_))
            have yv := ys.mono cU
            have kK : RowR Xf nA [(Xb a jU jV)] [a] := RowR.cons ⟨jU, jV, Z, yv, yu⟩ (RowR.nil)
            refine Xx (T := Xf) (rows := [(Xb a jU jV)]) (l := [a]) Z Z Z kK Z Z Z Z Z Z Z Z (fun ME => ⟨(Ic Mb6 In0), ?_⟩)
            refine Ao 16 Z ?_
            have yx := ((dj.mono cT).mono eJ).mono cU
            refine Xj (T := Xf) (bytes := 88) (q := 0) Z Z Z yx Mb4 Z (SrcT.row Mb0 kK Z) B Z Z Z Z Z Z Z Z (fun d2 Fk hh yw => ⟨_, (.there (.there (.there (.there .here)))), ⟨(Ic Mb6 In0), ?_⟩⟩)
            refine Aw.shift (Re0 (Sd ⟨(Ic Mb5 In0), ?_⟩))
            have fU := ((((g.mono ai).mono cT).mono eJ).mono cU).mono hh
            obtain ⟨Jo, ii, qR⟩ := RowR.at fU h
            obtain ⟨MF, rfl, HQ⟩ := qR
            refine Xk 17 (by kernel_rfl) (Jyq Z (XB (T := (Ty.sl Xf)) Mb4 fU ii (Xm h).1 Z Z Z Z Z) ⟨(Ic Mb5 In0), ?_⟩)
            refine Ao 18 Z ?_
            refine Xr (T := (Ty.sl Xf)) (vs := [(sv d2)]) (r' := [(sv d2)]) (l' := (Xz f b i)) Z Z Z Z Z (.there (.there (.there (.there .here)))) fU ii Z Z Z (RowR.set b fU ⟨d2, Z, yw⟩) (fun po => ⟨(Ic Mb5 In0), ?_⟩)
            have G2 := XG ii (v := [(sv d2)])
            refine Ad<|Pu4<|Pu6<|Pu6<|Pu3<|Re4<|Re4<|Re4<|?_
            have yy := (((mc.mono cT).mono eJ).mono cU).mono hh
            have yz := ((((z.mono ai).mono cT).mono eJ).mono cU).mono hh
            exact Sd ⟨_, by exact R2, j, k, e, p1.cnfg.starts, p1.cnfg.threads, c, (Xz f b i), (x.set b.toNat [(sv d2)]), w, p1.picks, Z, Z, H, yy, po, yz⟩
           ·refine id (Jy Z ?_)
            refine OpW.shift (Pu1 (Sd ?_))
            have iS := F.mono ai
            have yA := L.mono ai
            have dk := I.mono ai
            refine Ek Tryz.call40 Z (XT n (W8.mk p0.list N ((W8.mk p0.list D p0.value).value)) o p1.cnfg t e p r s O _ _ iS yA dk) ?_
            rintro _ Fl _ ae ⟨mK, mL, rfl, rfl, md, me⟩
            refine ⟨(Ic Mb3 In0), ?_⟩
            refine Xu 1 14 (by kernel_rfl) ?_ ?_
            ·refine id (Jyq Z (Xe (v := (sv c)) Z Z Z (Rb4 Z)) ⟨(Ic Mb3 In0), ?_⟩)
             refine Ao 14 Z ?_
             have yB := iS.mono ae
             refine Ek Tryz.call39 Z (XL n (W8.mk p0.list r s) o p mK mL a j k J _ _ yB md me) ?_
             rintro _ Fm _ eK ⟨jW, jX, KX, rfl, rfl, yC, yD⟩
             refine ⟨(Ic Mb5 In0), ?_⟩
             refine Ao 15 Z ?_
             refine OpW.shift (Shift.settle (T := Ty.i64) (.there (.there .here)) yD Z (fun nB cV yE => Sd ?_))
             have yF := yC.mono cV
             have kL : RowR Xf nB [(Xb a jW jX)] [a] := RowR.cons ⟨jW, jX, Z, yF, yE⟩ (RowR.nil)
             refine Xx (T := Xf) (rows := [(Xb a jW jX)]) (l := [a]) Z Z Z kL Z Z Z Z Z Z Z Z (fun MG => ⟨(Ic Mb6 In0), ?_⟩)
             refine Ao 16 Z ?_
             have yH := ((dj.mono ae).mono eK).mono cV
             refine Xj (T := Xf) (bytes := 88) (q := 0) Z Z Z yH Mb4 Z (SrcT.row Mb0 kL Z) B Z Z Z Z Z Z Z Z (fun d3 Fn hi yG => ⟨_, (.there (.there (.there (.there .here)))), ⟨(Ic Mb6 In0), ?_⟩⟩)
             refine Aw.shift (Re0 (Sd ⟨(Ic Mb5 In0), ?_⟩))
             have fV := ((((g.mono ai).mono ae).mono eK).mono cV).mono hi
             obtain ⟨Jp, ij, qS⟩ := RowR.at fV h
             obtain ⟨MH, rfl, HR⟩ := qS
             refine Xk 17 (by kernel_rfl) (Jyq Z (XB (T := (Ty.sl Xf)) Mb4 fV ij (Xm h).1 Z Z Z Z Z) ⟨(Ic Mb5 In0), ?_⟩)
             refine Ao 18 Z ?_
             refine Xr (T := (Ty.sl Xf)) (vs := [(sv d3)]) (r' := [(sv d3)]) (l' := (Xz f b i)) Z Z Z Z Z (.there (.there (.there (.there .here)))) fV ij Z Z Z (RowR.set b fV ⟨d3, Z, yG⟩) (fun pp => ⟨(Ic Mb5 In0), ?_⟩)
             have G3 := XG ij (v := [(sv d3)])
             refine Ad<|Pu4<|Pu6<|Pu6<|Pu3<|Re4<|Re4<|Re4<|?_
             have yI := (((dk.mono ae).mono eK).mono cV).mono hi
             have yJ := ((((z.mono ai).mono ae).mono eK).mono cV).mono hi
             exact Sd ⟨_, by exact R2, j, k, e, p1.cnfg.starts, p1.cnfg.threads, c, (Xz f b i), (x.set b.toNat [(sv d3)]), w, p1.picks, Z, Z, H, yI, pp, yJ⟩
            ·refine id (Jy Z ?_)
             have yK := iS.mono ae
             refine Ek Tryz.call39 Z (XL n (W8.mk p0.list r s) o p mK mL a j k J _ _ yK md me) ?_
             rintro _ Fo _ ap ⟨aY, aZ, KY, rfl, rfl, mf, mg⟩
             refine ⟨(Ic Mb5 In0), ?_⟩
             refine Xu 1 15 (by kernel_rfl) ?_ ?_
             ·refine id (Jyq Z (Xe (v := (sv c)) Z Z Z (Rb6 Z)) ⟨(Ic Mb5 In0), ?_⟩)
              refine Ao 15 Z ?_
              refine OpW.shift (Shift.settle (T := Ty.i64) (.there (.there .here)) mg Z (fun nC cW yL => Sd ?_))
              have yM := mf.mono cW
              have kM : RowR Xf nC [(Xb a aY aZ)] [a] := RowR.cons ⟨aY, aZ, Z, yM, yL⟩ (RowR.nil)
              refine Xx (T := Xf) (rows := [(Xb a aY aZ)]) (l := [a]) Z Z Z kM Z Z Z Z Z Z Z Z (fun MI => ⟨(Ic Mb6 In0), ?_⟩)
              refine Ao 16 Z ?_
              have yO := ((dj.mono ae).mono ap).mono cW
              refine Xj (T := Xf) (bytes := 88) (q := 0) Z Z Z yO Mb4 Z (SrcT.row Mb0 kM Z) B Z Z Z Z Z Z Z Z (fun d4 Fp hj yN => ⟨_, (.there (.there (.there (.there .here)))), ⟨(Ic Mb6 In0), ?_⟩⟩)
              refine Aw.shift (Re0 (Sd ⟨(Ic Mb5 In0), ?_⟩))
              have fW := ((((g.mono ai).mono ae).mono ap).mono cW).mono hj
              obtain ⟨Js, ik, qT⟩ := RowR.at fW h
              obtain ⟨MJ, rfl, HS⟩ := qT
              refine Xk 17 (by kernel_rfl) (Jyq Z (XB (T := (Ty.sl Xf)) Mb4 fW ik (Xm h).1 Z Z Z Z Z) ⟨(Ic Mb5 In0), ?_⟩)
              refine Ao 18 Z ?_
              refine Xr (T := (Ty.sl Xf)) (vs := [(sv d4)]) (r' := [(sv d4)]) (l' := (Xz f b i)) Z Z Z Z Z (.there (.there (.there (.there .here)))) fW ik Z Z Z (RowR.set b fW ⟨d4, Z, yN⟩) (fun pq => ⟨(Ic Mb5 In0), ?_⟩)
              have G4 := XG ik (v := [(sv d4)])
              refine Ad<|Pu4<|Pu6<|Pu6<|Pu3<|Re4<|Re4<|Re4<|?_
              have yP := (((dk.mono ae).mono ap).mono cW).mono hj
              have yQ := ((((z.mono ai).mono ae).mono ap).mono cW).mono hj
              exact Sd ⟨_, by exact R2, j, k, e, p1.cnfg.starts, p1.cnfg.threads, c, (Xz f b i), (x.set b.toNat [(sv d4)]), w, p1.picks, Z, Z, H, yP, pq, yQ⟩
             ·refine id (Jy Z ?_)
              refine OpW.shift (Shift.settle (T := Ty.i64) (.there (.there .here)) mg Z (fun nD aA yR => Sd ?_))
              have yS := mf.mono aA
              have hA : RowR Xf nD [(Xb a aY aZ)] [a] := RowR.cons ⟨aY, aZ, Z, yS, yR⟩ (RowR.nil)
              refine Xx (T := Xf) (rows := [(Xb a aY aZ)]) (l := [a]) Z Z Z hA Z Z Z Z Z Z Z Z (fun MK => ⟨(Ic Mb6 In0), ?_⟩)
              refine Xu 1 16 (by kernel_rfl) ?_ ?_
              ·refine id (Jyq Z (Xe (v := (sv c)) Z Z Z (Rb7 Z)) ⟨(Ic Mb6 In0), ?_⟩)
               refine Ao 16 Z ?_
               have yU := ((dj.mono ae).mono ap).mono aA
               refine Xj (T := Xf) (bytes := 88) (q := 0) Z Z Z yU Mb4 Z (SrcT.row Mb0 hA Z) B Z Z Z Z Z Z Z Z (fun d5 Fq hk yT => ⟨_, (.there (.there (.there (.there .here)))), ⟨(Ic Mb6 In0), ?_⟩⟩)
               refine Aw.shift (Re0 (Sd ⟨(Ic Mb5 In0), ?_⟩))
               have fX := ((((g.mono ai).mono ae).mono ap).mono aA).mono hk
               obtain ⟨Jt, il, qU⟩ := RowR.at fX h
               obtain ⟨ML, rfl, HT⟩ := qU
               refine Xk 17 (by kernel_rfl) (Jyq Z (XB (T := (Ty.sl Xf)) Mb4 fX il (Xm h).1 Z Z Z Z Z) ⟨(Ic Mb5 In0), ?_⟩)
               refine Ao 18 Z ?_
               refine Xr (T := (Ty.sl Xf)) (vs := [(sv d5)]) (r' := [(sv d5)]) (l' := (Xz f b i)) Z Z Z Z Z (.there (.there (.there (.there .here)))) fX il Z Z Z (RowR.set b fX ⟨d5, Z, yT⟩) (fun pr => ⟨(Ic Mb5 In0), ?_⟩)
               have G5 := XG il (v := [(sv d5)])
               refine Ad<|Pu4<|Pu6<|Pu6<|Pu3<|Re4<|Re4<|Re4<|?_
               have yV := (((dk.mono ae).mono ap).mono aA).mono hk
               have yW := ((((z.mono ai).mono ae).mono ap).mono aA).mono hk
               exact Sd ⟨_, by exact R2, j, k, e, p1.cnfg.starts, p1.cnfg.threads, c, (Xz f b i), (x.set b.toNat [(sv d5)]), w, p1.picks, Z, Z, H, yV, pr, yW⟩
              ·refine id (Jy Z ?_)
               have yY := ((dj.mono ae).mono ap).mono aA
               refine Xj (T := Xf) (bytes := 88) (q := 0) Z Z Z yY Mb4 Z (SrcT.row Mb0 hA Z) B Z Z Z Z Z Z Z Z (fun d6 Fr hl yX => ⟨_, (.there (.there (.there (.there .here)))), ⟨(Ic Mb6 In0), ?_⟩⟩)
               refine Aw.shift (Re0 (Sd ⟨(Ic Mb5 In0), ?_⟩))
               refine Xk 1 (by kernel_rfl) (Jyq Z (Xe (v := (sv c)) Z Z Z (Rb6 Z)) ⟨(Ic Mb5 In0), ?_⟩)
               have fY := ((((g.mono ai).mono ae).mono ap).mono aA).mono hl
               obtain ⟨Ju, im, qV⟩ := RowR.at fY h
               obtain ⟨MM, rfl, HU⟩ := qV
               refine Xk 17 (by kernel_rfl) (Jyq Z (XB (T := (Ty.sl Xf)) Mb4 fY im (Xm h).1 Z Z Z Z Z) ⟨(Ic Mb5 In0), ?_⟩)
               refine Ao 18 Z ?_
               refine Xr (T := (Ty.sl Xf)) (vs := [(sv d6)]) (r' := [(sv d6)]) (l' := (Xz f b i)) Z Z Z Z Z (.there (.there (.there (.there .here)))) fY im Z Z Z (RowR.set b fY ⟨d6, Z, yX⟩) (fun ps => ⟨(Ic Mb5 In0), ?_⟩)
               have G6 := XG im (v := [(sv d6)])
               refine Ad<|Pu4<|Pu6<|Pu6<|Pu3<|Re4<|Re4<|Re4<|?_
               have yZ := (((dk.mono ae).mono ap).mono aA).mono hl
               have y1 := ((((z.mono ai).mono ae).mono ap).mono aA).mono hl
               exact Sd ⟨_, by exact R2, j, k, e, p1.cnfg.starts, p1.cnfg.threads, c, (Xz f b i), (x.set b.toNat [(sv d6)]), w, p1.picks, Z, Z, H, yZ, ps, y1⟩
      ·refine id (Jyq Z (X1 (m := 3) (cs := (Xl p1.cnfg t e)) Z Z Z Z ⟨Z, Rb3 Z⟩) ⟨(Ic Mb2 In0), ?_⟩)
       refine Xu 1 4 (by kernel_rfl) ?_ ?_
       ·refine id (Jyq Z (Xe (v := (sv c)) Z Z Z (Rb3 Z)) ⟨(Ic Mb2 In0), ?_⟩)
        refine Xk 4 (by kernel_rfl) (Jyq Z (Xe (v := (sv c)) Z Z Z (Rb3 Z)) ⟨(Ic Mb2 In0), ?_⟩)
        obtain ⟨Jv, k9, qW⟩ := RowR.at g X
        obtain ⟨Cq, rfl, y2⟩ := qW
        refine Xk 6 (by kernel_rfl) (Jyq Z (XB (T := (Ty.sl Xf)) Mb1 g k9 (Xm X).1 Z Z Z Z Z) ⟨(Ic Mb2 In0), ?_⟩)
        refine Xk 7 (by kernel_rfl) (Jyq Z (Xe (v := (sv Cq)) Z Z Z (XI (T := (Ty.sl Xf)) Mb1 g k9 Z Z)) ⟨(Ic Mb2 In0), ?_⟩)
        refine Ao 8 Z ?_
        refine OpW.shift (Shift.nilTok1 70 7 (Sd ?_))
        refine Xj (T := Xf) (bytes := 88) (q := 0) Z Z Z (Slr.nil Xf _) Mb0 Z (SrcT.sl y2) P Z Z Z Z Z Z Z Z (fun MN Fs cX y3 => ⟨_, .here, ⟨(Ic Mb3 In0), ?_⟩⟩)
        refine Ao 13 Z ?_
        refine OpW.shift (Pu1 (Sd ?_))
        have mh := F.mono cX
        have y4 := L.mono cX
        have mi := I.mono cX
        refine Ek Tryz.call40 Z (XT n (W8.mk p0.list N ((W8.mk p0.list D p0.value).value)) o p1.cnfg t e p r s O _ _ mh y4 mi) ?_
        rintro _ Ft _ cY ⟨Cr, Cs, rfl, rfl, y5, y6⟩
        refine ⟨(Ic Mb3 In0), ?_⟩
        refine Ao 14 Z ?_
        have y7 := mh.mono cY
        refine Ek Tryz.call39 Z (XL n (W8.mk p0.list r s) o p Cr Cs a j k J _ _ y7 y5 y6) ?_
        rintro _ Fu _ eL ⟨jY, jZ, KZ, rfl, rfl, y8, y9⟩
        refine ⟨(Ic Mb5 In0), ?_⟩
        refine Ao 15 Z ?_
        refine OpW.shift (Shift.settle (T := Ty.i64) (.there (.there .here)) y9 Z (fun nE cZ za => Sd ?_))
        have zb := y8.mono cZ
        have kN : RowR Xf nE [(Xb a jY jZ)] [a] := RowR.cons ⟨jY, jZ, Z, zb, za⟩ (RowR.nil)
        refine Xx (T := Xf) (rows := [(Xb a jY jZ)]) (l := [a]) Z Z Z kN Z Z Z Z Z Z Z Z (fun MO => ⟨(Ic Mb6 In0), ?_⟩)
        refine Ao 16 Z ?_
        have zd := ((y3.mono cY).mono eL).mono cZ
        refine Xj (T := Xf) (bytes := 88) (q := 0) Z Z Z zd Mb4 Z (SrcT.row Mb0 kN Z) B Z Z Z Z Z Z Z Z (fun d7 Fv hm zc => ⟨_, (.there (.there (.there (.there .here)))), ⟨(Ic Mb6 In0), ?_⟩⟩)
        refine Aw.shift (Re0 (Sd ⟨(Ic Mb5 In0), ?_⟩))
        have fZ := ((((g.mono cX).mono cY).mono eL).mono cZ).mono hm
        obtain ⟨Jw, io, qX⟩ := RowR.at fZ h
        obtain ⟨MP, rfl, HV⟩ := qX
        refine Xk 17 (by kernel_rfl) (Jyq Z (XB (T := (Ty.sl Xf)) Mb4 fZ io (Xm h).1 Z Z Z Z Z) ⟨(Ic Mb5 In0), ?_⟩)
        refine Ao 18 Z ?_
        refine Xr (T := (Ty.sl Xf)) (vs := [(sv d7)]) (r' := [(sv d7)]) (l' := (Xz f b i)) Z Z Z Z Z (.there (.there (.there (.there .here)))) fZ io Z Z Z (RowR.set b fZ ⟨d7, Z, zc⟩) (fun pt => ⟨(Ic Mb5 In0), ?_⟩)
        have G7 := XG io (v := [(sv d7)])
        refine Ad<|Pu4<|Pu6<|Pu6<|Pu3<|Re4<|Re4<|Re4<|?_
        have ze := (((mi.mono cY).mono eL).mono cZ).mono hm
        have zf := ((((z.mono cX).mono cY).mono eL).mono cZ).mono hm
        exact Sd ⟨_, by exact R2, j, k, e, p1.cnfg.starts, p1.cnfg.threads, c, (Xz f b i), (x.set b.toNat [(sv d7)]), w, p1.picks, Z, Z, H, ze, pt, zf⟩
       ·refine id (Jyq Z (Xe (v := (sv c)) Z Z Z (Rb3 Z)) ⟨(Ic Mb2 In0), ?_⟩)
        refine Xu 1 6 (by kernel_rfl) ?_ ?_
        ·refine id (Jyq Z (Xe (v := (sv c)) Z Z Z (Rb3 Z)) ⟨(Ic Mb2 In0), ?_⟩)
         obtain ⟨Jx, la, qY⟩ := RowR.at g X
         obtain ⟨Ct, rfl, zg⟩ := qY
         refine Xk 6 (by kernel_rfl) (Jyq Z (XB (T := (Ty.sl Xf)) Mb1 g la (Xm X).1 Z Z Z Z Z) ⟨(Ic Mb2 In0), ?_⟩)
         refine Xk 7 (by kernel_rfl) (Jyq Z (Xe (v := (sv Ct)) Z Z Z (XI (T := (Ty.sl Xf)) Mb1 g la Z Z)) ⟨(Ic Mb2 In0), ?_⟩)
         refine Ao 8 Z ?_
         refine OpW.shift (Shift.nilTok1 70 7 (Sd ?_))
         refine Xj (T := Xf) (bytes := 88) (q := 0) Z Z Z (Slr.nil Xf _) Mb0 Z (SrcT.sl zg) P Z Z Z Z Z Z Z Z (fun MQ Fw c0 zh => ⟨_, .here, ⟨(Ic Mb3 In0), ?_⟩⟩)
         refine Ao 13 Z ?_
         refine OpW.shift (Pu1 (Sd ?_))
         have mj := F.mono c0
         have zi := L.mono c0
         have ml := I.mono c0
         refine Ek Tryz.call40 Z (XT n (W8.mk p0.list N ((W8.mk p0.list D p0.value).value)) o p1.cnfg t e p r s O _ _ mj zi ml) ?_
         rintro _ Fx _ c1 ⟨Cu, Cv, rfl, rfl, zj, zk⟩
         refine ⟨(Ic Mb3 In0), ?_⟩
         refine Ao 14 Z ?_
         have zl := mj.mono c1
         refine Ek Tryz.call39 Z (XL n (W8.mk p0.list r s) o p Cu Cv a j k J _ _ zl zj zk) ?_
         rintro _ Fy _ eM ⟨j0, j1, K0, rfl, rfl, zm, zn⟩
         refine ⟨(Ic Mb5 In0), ?_⟩
         refine Ao 15 Z ?_
         refine OpW.shift (Shift.settle (T := Ty.i64) (.there (.there .here)) zn Z (fun nF c2 zo => Sd ?_))
         have zp := zm.mono c2
         have kO : RowR Xf nF [(Xb a j0 j1)] [a] := RowR.cons ⟨j0, j1, Z, zp, zo⟩ (RowR.nil)
         refine Xx (T := Xf) (rows := [(Xb a j0 j1)]) (l := [a]) Z Z Z kO Z Z Z Z Z Z Z Z (fun MR => ⟨(Ic Mb6 In0), ?_⟩)
         refine Ao 16 Z ?_
         have zr := ((zh.mono c1).mono eM).mono c2
         refine Xj (T := Xf) (bytes := 88) (q := 0) Z Z Z zr Mb4 Z (SrcT.row Mb0 kO Z) B Z Z Z Z Z Z Z Z (fun d8 Fz hn zq => ⟨_, (.there (.there (.there (.there .here)))), ⟨(Ic Mb6 In0), ?_⟩⟩)
         refine Aw.shift (Re0 (Sd ⟨(Ic Mb5 In0), ?_⟩))
         have f0 := ((((g.mono c0).mono c1).mono eM).mono c2).mono hn
         obtain ⟨Jz, ip, qZ⟩ := RowR.at f0 h
         obtain ⟨MS, rfl, HW⟩ := qZ
         refine Xk 17 (by kernel_rfl) (Jyq Z (XB (T := (Ty.sl Xf)) Mb4 f0 ip (Xm h).1 Z Z Z Z Z) ⟨(Ic Mb5 In0), ?_⟩)
         refine Ao 18 Z ?_
         refine Xr (T := (Ty.sl Xf)) (vs := [(sv d8)]) (r' := [(sv d8)]) (l' := (Xz f b i)) Z Z Z Z Z (.there (.there (.there (.there .here)))) f0 ip Z Z Z (RowR.set b f0 ⟨d8, Z, zq⟩) (fun pu => ⟨(Ic Mb5 In0), ?_⟩)
         have G8 := XG ip (v := [(sv d8)])
         refine Ad<|Pu4<|Pu6<|Pu6<|Pu3<|Re4<|Re4<|Re4<|?_
         have zs := (((ml.mono c1).mono eM).mono c2).mono hn
         have zt := ((((z.mono c0).mono c1).mono eM).mono c2).mono hn
         exact Sd ⟨_, by exact R2, j, k, e, p1.cnfg.starts, p1.cnfg.threads, c, (Xz f b i), (x.set b.toNat [(sv d8)]), w, p1.picks, Z, Z, H, zs, pu, zt⟩
        ·obtain ⟨JA, iq, q0⟩ := RowR.at g X
         obtain ⟨mM, rfl, iT⟩ := q0
         refine id (Jyq Z (XB (T := (Ty.sl Xf)) Mb1 g iq (Xm X).1 Z Z Z Z Z) ⟨(Ic Mb2 In0), ?_⟩)
         refine Xu 1 7 (by kernel_rfl) ?_ ?_
         ·refine id (Jyq Z (Xe (v := (sv c)) Z Z Z (Rb3 Z)) ⟨(Ic Mb2 In0), ?_⟩)
          refine Xk 7 (by kernel_rfl) (Jyq Z (Xe (v := (sv mM)) Z Z Z (XI (T := (Ty.sl Xf)) Mb1 g iq Z Z)) ⟨(Ic Mb2 In0), ?_⟩)
          refine Ao 8 Z ?_
          refine OpW.shift (Shift.nilTok1 70 7 (Sd ?_))
          refine Xj (T := Xf) (bytes := 88) (q := 0) Z Z Z (Slr.nil Xf _) Mb0 Z (SrcT.sl iT) P Z Z Z Z Z Z Z Z (fun MT FA c3 zu => ⟨_, .here, ⟨(Ic Mb3 In0), ?_⟩⟩)
          refine Ao 13 Z ?_
          refine OpW.shift (Pu1 (Sd ?_))
          have mm := F.mono c3
          have zv := L.mono c3
          have mn := I.mono c3
          refine Ek Tryz.call40 Z (XT n (W8.mk p0.list N ((W8.mk p0.list D p0.value).value)) o p1.cnfg t e p r s O _ _ mm zv mn) ?_
          rintro _ FB _ c4 ⟨Cw, Cx, rfl, rfl, zw, zx⟩
          refine ⟨(Ic Mb3 In0), ?_⟩
          refine Ao 14 Z ?_
          have zy := mm.mono c4
          refine Ek Tryz.call39 Z (XL n (W8.mk p0.list r s) o p Cw Cx a j k J _ _ zy zw zx) ?_
          rintro _ FC _ eN ⟨j2, j3, K1, rfl, rfl, zz, zA⟩
          refine ⟨(Ic Mb5 In0), ?_⟩
          refine Ao 15 Z ?_
          refine OpW.shift (Shift.settle (T := Ty.i64) (.there (.there .here)) zA Z (fun nG c5 zB => Sd ?_))
          have zC := zz.mono c5
          have kP : RowR Xf nG [(Xb a j2 j3)] [a] := RowR.cons ⟨j2, j3, Z, zC, zB⟩ (RowR.nil)
          refine Xx (T := Xf) (rows := [(Xb a j2 j3)]) (l := [a]) Z Z Z kP Z Z Z Z Z Z Z Z (fun MU => ⟨(Ic Mb6 In0), ?_⟩)
          refine Ao 16 Z ?_
          have zE := ((zu.mono c4).mono eN).mono c5
          refine Xj (T := Xf) (bytes := 88) (q := 0) Z Z Z zE Mb4 Z (SrcT.row Mb0 kP Z) B Z Z Z Z Z Z Z Z (fun d9 FD ho zD => ⟨_, (.there (.there (.there (.there .here)))), ⟨(Ic Mb6 In0), ?_⟩⟩)
          refine Aw.shift (Re0 (Sd ⟨(Ic Mb5 In0), ?_⟩))
          have f1 := ((((g.mono c3).mono c4).mono eN).mono c5).mono ho
          obtain ⟨JB, ir, q1⟩ := RowR.at f1 h
          obtain ⟨MV, rfl, HX⟩ := q1
          refine Xk 17 (by kernel_rfl) (Jyq Z (XB (T := (Ty.sl Xf)) Mb4 f1 ir (Xm h).1 Z Z Z Z Z) ⟨(Ic Mb5 In0), ?_⟩)
          refine Ao 18 Z ?_
          refine Xr (T := (Ty.sl Xf)) (vs := [(sv d9)]) (r' := [(sv d9)]) (l' := (Xz f b i)) Z Z Z Z Z (.there (.there (.there (.there .here)))) f1 ir Z Z Z (RowR.set b f1 ⟨d9, Z, zD⟩) (fun pv => ⟨(Ic Mb5 In0), ?_⟩)
          have G9 := XG ir (v := [(sv d9)])
          refine Ad<|Pu4<|Pu6<|Pu6<|Pu3<|Re4<|Re4<|Re4<|?_
          have zF := (((mn.mono c4).mono eN).mono c5).mono ho
          have zG := ((((z.mono c3).mono c4).mono eN).mono c5).mono ho
          exact Sd ⟨_, by exact R2, j, k, e, p1.cnfg.starts, p1.cnfg.threads, c, (Xz f b i), (x.set b.toNat [(sv d9)]), w, p1.picks, Z, Z, H, zF, pv, zG⟩
         ·refine id (Jyq Z (Xe (v := (sv mM)) Z Z Z (XI (T := (Ty.sl Xf)) Mb1 g iq Z Z)) ⟨(Ic Mb2 In0), ?_⟩)
          refine Xu 1 8 (by kernel_rfl) ?_ ?_
          ·refine id (Jyq Z (Xe (v := (sv c)) Z Z Z (Rb3 Z)) ⟨(Ic Mb2 In0), ?_⟩)
           refine Ao 8 Z ?_
           refine OpW.shift (Shift.nilTok1 70 7 (Sd ?_))
           refine Xj (T := Xf) (bytes := 88) (q := 0) Z Z Z (Slr.nil Xf _) Mb0 Z (SrcT.sl iT) P Z Z Z Z Z Z Z Z (fun MW FE c6 zH => ⟨_, .here, ⟨(Ic Mb3 In0), ?_⟩⟩)
           refine Ao 13 Z ?_
           refine OpW.shift (Pu1 (Sd ?_))
           have mo := F.mono c6
           have zI := L.mono c6
           have mp := I.mono c6
           refine Ek Tryz.call40 Z (XT n (W8.mk p0.list N ((W8.mk p0.list D p0.value).value)) o p1.cnfg t e p r s O _ _ mo zI mp) ?_
           rintro _ FF _ c7 ⟨Cy, Cz, rfl, rfl, zJ, zK⟩
           refine ⟨(Ic Mb3 In0), ?_⟩
           refine Ao 14 Z ?_
           have zL := mo.mono c7
           refine Ek Tryz.call39 Z (XL n (W8.mk p0.list r s) o p Cy Cz a j k J _ _ zL zJ zK) ?_
           rintro _ FG _ eO ⟨j4, j5, K2, rfl, rfl, zM, zN⟩
           refine ⟨(Ic Mb5 In0), ?_⟩
           refine Ao 15 Z ?_
           refine OpW.shift (Shift.settle (T := Ty.i64) (.there (.there .here)) zN Z (fun nH c8 zO => Sd ?_))
           have zP := zM.mono c8
           have kQ : RowR Xf nH [(Xb a j4 j5)] [a] := RowR.cons ⟨j4, j5, Z, zP, zO⟩ (RowR.nil)
           refine Xx (T := Xf) (rows := [(Xb a j4 j5)]) (l := [a]) Z Z Z kQ Z Z Z Z Z Z Z Z (fun MX => ⟨(Ic Mb6 In0), ?_⟩)
           refine Ao 16 Z ?_
           have zR := ((zH.mono c7).mono eO).mono c8
           refine Xj (T := Xf) (bytes := 88) (q := 0) Z Z Z zR Mb4 Z (SrcT.row Mb0 kQ Z) B Z Z Z Z Z Z Z Z (fun ea FH hp zQ => ⟨_, (.there (.there (.there (.there .here)))), ⟨(Ic Mb6 In0), ?_⟩⟩)
           refine Aw.shift (Re0 (Sd ⟨(Ic Mb5 In0), ?_⟩))
           have f2 := ((((g.mono c6).mono c7).mono eO).mono c8).mono hp
           obtain ⟨JC, it, q2⟩ := RowR.at f2 h
           obtain ⟨MY, rfl, HY⟩ := q2
           refine Xk 17 (by kernel_rfl) (Jyq Z (XB (T := (Ty.sl Xf)) Mb4 f2 it (Xm h).1 Z Z Z Z Z) ⟨(Ic Mb5 In0), ?_⟩)
           refine Ao 18 Z ?_
           refine Xr (T := (Ty.sl Xf)) (vs := [(sv ea)]) (r' := [(sv ea)]) (l' := (Xz f b i)) Z Z Z Z Z (.there (.there (.there (.there .here)))) f2 it Z Z Z (RowR.set b f2 ⟨ea, Z, zQ⟩) (fun pw => ⟨(Ic Mb5 In0), ?_⟩)
           have Ha := XG it (v := [(sv ea)])
           refine Ad<|Pu4<|Pu6<|Pu6<|Pu3<|Re4<|Re4<|Re4<|?_
           have zS := (((mp.mono c7).mono eO).mono c8).mono hp
           have zT := ((((z.mono c6).mono c7).mono eO).mono c8).mono hp
           exact Sd ⟨_, by exact R2, j, k, e, p1.cnfg.starts, p1.cnfg.threads, c, (Xz f b i), (x.set b.toNat [(sv ea)]), w, p1.picks, Z, Z, H, zS, pw, zT⟩
          ·refine id (Jy Z ?_)
           refine OpW.shift (Shift.nilTok1 70 7 (Sd ?_))
           refine Xj (T := Xf) (bytes := 88) (q := 0) Z Z Z (Slr.nil Xf _) Mb0 Z (SrcT.sl iT) P Z Z Z Z Z Z Z Z (fun MZ FI aj dl => ⟨_, .here, ⟨(Ic Mb3 In0), ?_⟩⟩)
           refine Xu 1 13 (by kernel_rfl) ?_ ?_
           ·refine id (Jyq Z (Xe (v := (sv c)) Z Z Z (Rb4 Z)) ⟨(Ic Mb3 In0), ?_⟩)
            refine Ao 13 Z ?_
            refine OpW.shift (Pu1 (Sd ?_))
            have mq := F.mono aj
            have zU := L.mono aj
            have mr := I.mono aj
            refine Ek Tryz.call40 Z (XT n (W8.mk p0.list N ((W8.mk p0.list D p0.value).value)) o p1.cnfg t e p r s O _ _ mq zU mr) ?_
            rintro _ FJ _ c9 ⟨CA, CB, rfl, rfl, zV, zW⟩
            refine ⟨(Ic Mb3 In0), ?_⟩
            refine Ao 14 Z ?_
            have zX := mq.mono c9
            refine Ek Tryz.call39 Z (XL n (W8.mk p0.list r s) o p CA CB a j k J _ _ zX zV zW) ?_
            rintro _ FK _ eP ⟨j6, j7, K3, rfl, rfl, zY, zZ⟩
            refine ⟨(Ic Mb5 In0), ?_⟩
            refine Ao 15 Z ?_
            refine OpW.shift (Shift.settle (T := Ty.i64) (.there (.there .here)) zZ Z (fun nI da z0 => Sd ?_))
            have z1 := zY.mono da
            have kR : RowR Xf nI [(Xb a j6 j7)] [a] := RowR.cons ⟨j6, j7, Z, z1, z0⟩ (RowR.nil)
            refine Xx (T := Xf) (rows := [(Xb a j6 j7)]) (l := [a]) Z Z Z kR Z Z Z Z Z Z Z Z (fun M0 => ⟨(Ic Mb6 In0), ?_⟩)
            refine Ao 16 Z ?_
            have z3 := ((dl.mono c9).mono eP).mono da
            refine Xj (T := Xf) (bytes := 88) (q := 0) Z Z Z z3 Mb4 Z (SrcT.row Mb0 kR Z) B Z Z Z Z Z Z Z Z (fun eb FL hq z2 => ⟨_, (.there (.there (.there (.there .here)))), ⟨(Ic Mb6 In0), ?_⟩⟩)
            refine Aw.shift (Re0 (Sd ⟨(Ic Mb5 In0), ?_⟩))
            have f3 := ((((g.mono aj).mono c9).mono eP).mono da).mono hq
            obtain ⟨JD, iu, q3⟩ := RowR.at f3 h
            obtain ⟨M1, rfl, HZ⟩ := q3
            refine Xk 17 (by kernel_rfl) (Jyq Z (XB (T := (Ty.sl Xf)) Mb4 f3 iu (Xm h).1 Z Z Z Z Z) ⟨(Ic Mb5 In0), ?_⟩)
            refine Ao 18 Z ?_
            refine Xr (T := (Ty.sl Xf)) (vs := [(sv eb)]) (r' := [(sv eb)]) (l' := (Xz f b i)) Z Z Z Z Z (.there (.there (.there (.there .here)))) f3 iu Z Z Z (RowR.set b f3 ⟨eb, Z, z2⟩) (fun px => ⟨(Ic Mb5 In0), ?_⟩)
            have Hb := XG iu (v := [(sv eb)])
            refine Ad<|Pu4<|Pu6<|Pu6<|Pu3<|Re4<|Re4<|Re4<|?_
            have z4 := (((mr.mono c9).mono eP).mono da).mono hq
            have z5 := ((((z.mono aj).mono c9).mono eP).mono da).mono hq
            exact Sd ⟨_, by exact R2, j, k, e, p1.cnfg.starts, p1.cnfg.threads, c, (Xz f b i), (x.set b.toNat [(sv eb)]), w, p1.picks, Z, Z, H, z4, px, z5⟩
           ·refine id (Jy Z ?_)
            refine OpW.shift (Pu1 (Sd ?_))
            have iU := F.mono aj
            have z6 := L.mono aj
            have dm := I.mono aj
            refine Ek Tryz.call40 Z (XT n (W8.mk p0.list N ((W8.mk p0.list D p0.value).value)) o p1.cnfg t e p r s O _ _ iU z6 dm) ?_
            rintro _ FM _ af ⟨mN, mO, rfl, rfl, ms, mt⟩
            refine ⟨(Ic Mb3 In0), ?_⟩
            refine Xu 1 14 (by kernel_rfl) ?_ ?_
            ·refine id (Jyq Z (Xe (v := (sv c)) Z Z Z (Rb4 Z)) ⟨(Ic Mb3 In0), ?_⟩)
             refine Ao 14 Z ?_
             have z7 := iU.mono af
             refine Ek Tryz.call39 Z (XL n (W8.mk p0.list r s) o p mN mO a j k J _ _ z7 ms mt) ?_
             rintro _ FN _ eQ ⟨j8, j9, K4, rfl, rfl, z8, z9⟩
             refine ⟨(Ic Mb5 In0), ?_⟩
             refine Ao 15 Z ?_
             refine OpW.shift (Shift.settle (T := Ty.i64) (.there (.there .here)) z9 Z (fun nJ db Aa => Sd ?_))
             have Ab := z8.mono db
             have kS : RowR Xf nJ [(Xb a j8 j9)] [a] := RowR.cons ⟨j8, j9, Z, Ab, Aa⟩ (RowR.nil)
             refine Xx (T := Xf) (rows := [(Xb a j8 j9)]) (l := [a]) Z Z Z kS Z Z Z Z Z Z Z Z (fun M2 => ⟨(Ic Mb6 In0), ?_⟩)
             refine Ao 16 Z ?_
             have Ae := ((dl.mono af).mono eQ).mono db
             refine Xj (T := Xf) (bytes := 88) (q := 0) Z Z Z Ae Mb4 Z (SrcT.row Mb0 kS Z) B Z Z Z Z Z Z Z Z (fun ec FO hr Ac => ⟨_, (.there (.there (.there (.there .here)))), ⟨(Ic Mb6 In0), ?_⟩⟩)
             refine Aw.shift (Re0 (Sd ⟨(Ic Mb5 In0), ?_⟩))
             have f4 := ((((g.mono aj).mono af).mono eQ).mono db).mono hr
             obtain ⟨JE, iv, q4⟩ := RowR.at f4 h
             obtain ⟨M3, rfl, H0⟩ := q4
             refine Xk 17 (by kernel_rfl) (Jyq Z (XB (T := (Ty.sl Xf)) Mb4 f4 iv (Xm h).1 Z Z Z Z Z) ⟨(Ic Mb5 In0), ?_⟩)
             refine Ao 18 Z ?_
             refine Xr (T := (Ty.sl Xf)) (vs := [(sv ec)]) (r' := [(sv ec)]) (l' := (Xz f b i)) Z Z Z Z Z (.there (.there (.there (.there .here)))) f4 iv Z Z Z (RowR.set b f4 ⟨ec, Z, Ac⟩) (fun py => ⟨(Ic Mb5 In0), ?_⟩)
             have Hc := XG iv (v := [(sv ec)])
             refine Ad<|Pu4<|Pu6<|Pu6<|Pu3<|Re4<|Re4<|Re4<|?_
             have Af := (((dm.mono af).mono eQ).mono db).mono hr
             have Ag := ((((z.mono aj).mono af).mono eQ).mono db).mono hr
             exact Sd ⟨_, by exact R2, j, k, e, p1.cnfg.starts, p1.cnfg.threads, c, (Xz f b i), (x.set b.toNat [(sv ec)]), w, p1.picks, Z, Z, H, Af, py, Ag⟩
            ·refine id (Jy Z ?_)
             have Ah := iU.mono af
             refine Ek Tryz.call39 Z (XL n (W8.mk p0.list r s) o p mN mO a j k J _ _ Ah ms mt) ?_
             rintro _ FP _ aq ⟨a0, a1, K5, rfl, rfl, mu, mv⟩
             refine ⟨(Ic Mb5 In0), ?_⟩
             refine Xu 1 15 (by kernel_rfl) ?_ ?_
             ·refine id (Jyq Z (Xe (v := (sv c)) Z Z Z (Rb6 Z)) ⟨(Ic Mb5 In0), ?_⟩)
              refine Ao 15 Z ?_
              refine OpW.shift (Shift.settle (T := Ty.i64) (.there (.there .here)) mv Z (fun nK dc Ai => Sd ?_))
              have Aj := mu.mono dc
              have kT : RowR Xf nK [(Xb a a0 a1)] [a] := RowR.cons ⟨a0, a1, Z, Aj, Ai⟩ (RowR.nil)
              refine Xx (T := Xf) (rows := [(Xb a a0 a1)]) (l := [a]) Z Z Z kT Z Z Z Z Z Z Z Z (fun M4 => ⟨(Ic Mb6 In0), ?_⟩)
              refine Ao 16 Z ?_
              have Al := ((dl.mono af).mono aq).mono dc
              refine Xj (T := Xf) (bytes := 88) (q := 0) Z Z Z Al Mb4 Z (SrcT.row Mb0 kT Z) B Z Z Z Z Z Z Z Z (fun ed FQ hs Ak => ⟨_, (.there (.there (.there (.there .here)))), ⟨(Ic Mb6 In0), ?_⟩⟩)
              refine Aw.shift (Re0 (Sd ⟨(Ic Mb5 In0), ?_⟩))
              have f5 := ((((g.mono aj).mono af).mono aq).mono dc).mono hs
              obtain ⟨JG, iw, q5⟩ := RowR.at f5 h
              obtain ⟨M5, rfl, H1⟩ := q5
              refine Xk 17 (by kernel_rfl) (Jyq Z (XB (T := (Ty.sl Xf)) Mb4 f5 iw (Xm h).1 Z Z Z Z Z) ⟨(Ic Mb5 In0), ?_⟩)
              refine Ao 18 Z ?_
              refine Xr (T := (Ty.sl Xf)) (vs := [(sv ed)]) (r' := [(sv ed)]) (l' := (Xz f b i)) Z Z Z Z Z (.there (.there (.there (.there .here)))) f5 iw Z Z Z (RowR.set b f5 ⟨ed, Z, Ak⟩) (fun pz => ⟨(Ic Mb5 In0), ?_⟩)
              have Hd := XG iw (v := [(sv ed)])
              refine Ad<|Pu4<|Pu6<|Pu6<|Pu3<|Re4<|Re4<|Re4<|?_
              have Am := (((dm.mono af).mono aq).mono dc).mono hs
              have An := ((((z.mono aj).mono af).mono aq).mono dc).mono hs
              exact Sd ⟨_, by exact R2, j, k, e, p1.cnfg.starts, p1.cnfg.threads, c, (Xz f b i), (x.set b.toNat [(sv ed)]), w, p1.picks, Z, Z, H, Am, pz, An⟩
             ·refine id (Jy Z ?_)
              refine OpW.shift (Shift.settle (T := Ty.i64) (.there (.there .here)) mv Z (fun nL aB Ap => Sd ?_))
              have Aq := mu.mono aB
              have hB : RowR Xf nL [(Xb a a0 a1)] [a] := RowR.cons ⟨a0, a1, Z, Aq, Ap⟩ (RowR.nil)
              refine Xx (T := Xf) (rows := [(Xb a a0 a1)]) (l := [a]) Z Z Z hB Z Z Z Z Z Z Z Z (fun M6 => ⟨(Ic Mb6 In0), ?_⟩)
              refine Xu 1 16 (by kernel_rfl) ?_ ?_
              ·refine id (Jyq Z (Xe (v := (sv c)) Z Z Z (Rb7 Z)) ⟨(Ic Mb6 In0), ?_⟩)
               refine Ao 16 Z ?_
               have As := ((dl.mono af).mono aq).mono aB
               refine Xj (T := Xf) (bytes := 88) (q := 0) Z Z Z As Mb4 Z (SrcT.row Mb0 hB Z) B Z Z Z Z Z Z Z Z (fun ee FR ht Ar => ⟨_, (.there (.there (.there (.there .here)))), ⟨(Ic Mb6 In0), ?_⟩⟩)
               refine Aw.shift (Re0 (Sd ⟨(Ic Mb5 In0), ?_⟩))
               have f6 := ((((g.mono aj).mono af).mono aq).mono aB).mono ht
               obtain ⟨JH, ix, q6⟩ := RowR.at f6 h
               obtain ⟨M7, rfl, H2⟩ := q6
               refine Xk 17 (by kernel_rfl) (Jyq Z (XB (T := (Ty.sl Xf)) Mb4 f6 ix (Xm h).1 Z Z Z Z Z) ⟨(Ic Mb5 In0), ?_⟩)
               refine Ao 18 Z ?_
               refine Xr (T := (Ty.sl Xf)) (vs := [(sv ee)]) (r' := [(sv ee)]) (l' := (Xz f b i)) Z Z Z Z Z (.there (.there (.there (.there .here)))) f6 ix Z Z Z (RowR.set b f6 ⟨ee, Z, Ar⟩) (fun pA => ⟨(Ic Mb5 In0), ?_⟩)
               have He := XG ix (v := [(sv ee)])
               refine Ad<|Pu4<|Pu6<|Pu6<|Pu3<|Re4<|Re4<|Re4<|?_
               have At := (((dm.mono af).mono aq).mono aB).mono ht
               have Au := ((((z.mono aj).mono af).mono aq).mono aB).mono ht
               exact Sd ⟨_, by exact R2, j, k, e, p1.cnfg.starts, p1.cnfg.threads, c, (Xz f b i), (x.set b.toNat [(sv ee)]), w, p1.picks, Z, Z, H, At, pA, Au⟩
              ·refine id (Jy Z ?_)
               have Ax := ((dl.mono af).mono aq).mono aB
               refine Xj (T := Xf) (bytes := 88) (q := 0) Z Z Z Ax Mb4 Z (SrcT.row Mb0 hB Z) B Z Z Z Z Z Z Z Z (fun ef FSq hu Av => ⟨_, (.there (.there (.there (.there .here)))), ⟨(Ic Mb6 In0), ?_⟩⟩)
               refine Aw.shift (Re0 (Sd ⟨(Ic Mb5 In0), ?_⟩))
               refine Xk 1 (by kernel_rfl) (Jyq Z (Xe (v := (sv c)) Z Z Z (Rb6 Z)) ⟨(Ic Mb5 In0), ?_⟩)
               have f7 := ((((g.mono aj).mono af).mono aq).mono aB).mono hu
               obtain ⟨JI, iy, q7⟩ := RowR.at f7 h
               obtain ⟨M8, rfl, H3⟩ := q7
               refine Xk 17 (by kernel_rfl) (Jyq Z (XB (T := (Ty.sl Xf)) Mb4 f7 iy (Xm h).1 Z Z Z Z Z) ⟨(Ic Mb5 In0), ?_⟩)
               refine Ao 18 Z ?_
               refine Xr (T := (Ty.sl Xf)) (vs := [(sv ef)]) (r' := [(sv ef)]) (l' := (Xz f b i)) Z Z Z Z Z (.there (.there (.there (.there .here)))) f7 iy Z Z Z (RowR.set b f7 ⟨ef, Z, Av⟩) (fun pB => ⟨(Ic Mb5 In0), ?_⟩)
               have Hf := XG iy (v := [(sv ef)])
               refine Ad<|Pu4<|Pu6<|Pu6<|Pu3<|Re4<|Re4<|Re4<|?_
               have Ay := (((dm.mono af).mono aq).mono aB).mono hu
               have Az := ((((z.mono aj).mono af).mono aq).mono aB).mono hu
               exact Sd ⟨_, by exact R2, j, k, e, p1.cnfg.starts, p1.cnfg.threads, c, (Xz f b i), (x.set b.toNat [(sv ef)]), w, p1.picks, Z, Z, H, Ay, pB, Az⟩
     ·intro bC
      obtain ⟨bC, H⟩ := If bC H
      refine Xd<|W9<|Ec Z<|Ea Z<|Xa<|?_
      refine Xp Z ?_ ?_
      ·intro bD
       obtain ⟨bD, H⟩ := It bD H
       refine Xd<|W9<|Em Z<|EF 3 Z<|El (sv c) Z (Rb3 Z)<|Eq Z (YL (T := (Ty.sl Xf)) Mb1 g Z Z Z)<|?_
       obtain ⟨d, gF, Bt, H⟩ := Yf H
       refine Xh Z (Ek Tryz.call21 Z (XU n (W8.mk p0.list D p0.value) o (f.length : Int) d gF Bt _ _ F) ?_)
       rintro _ _ _ - ⟨rfl, rfl, rfl⟩
       refine Ea Z<|Xa<|?_
       refine XD (fun bx K' G' => ∃ (dp : ac3) (dq : List (List Value)) (gC : SV), [(0, (Vp n)), (3, (Vp aM)), (4, (Vp aN)), (6, (Vi d))] = bx ∧ (.blk n 55 (Xn (W8.mk p0.list gF ((W8.mk p0.list D p0.value).value)) o)) :: (.blk aN 33 (Xc (Script.mk (Config.mk [] [] 0) [] []) Xo Xo Xo Xo)) :: (.blk aM 33 (Xc (Script.mk p1.cnfg dp p1.picks) t e c w)) :: (.row (sv c) 51 1 dq.flatten) :: (.tok 70 7 [(sv gC)]) :: G = G' ∧ afA d p0 gF D p1 dp = some (y0, bv, bw) ∧ RowR (Ty.sl Xf) K' dq dp ∧ dq[d.toNat]? = some [(sv gC)]) ?_ ?_
       ·obtain ⟨Nz, aR, H⟩ := bnd H
        obtain ⟨av, dn, H⟩ := bnd H
        obtain ⟨NA, au, H⟩ := bnd H
        refine XH _ Z (Ic Mb0 (Ic Mb2 In0))<|JF 0 3 Z<|Jm 2 Z<|JF 3 3 Z<|Jm 5 Z<|?_
        refine Xu 1 4 (by kernel_rfl) ?_ ?_
        ·refine id (Jyq Z (Xe (v := (sv c)) Z Z Z (Rb3 Z)) ⟨(Ic Mb0 (Ic Mb2 In0)), ?_⟩)
         refine Xk 4 (by kernel_rfl) (Jyq Z (Xe (v := (sv c)) Z Z Z (Rb3 Z)) ⟨(Ic Mb0 (Ic Mb2 In0)), ?_⟩)
         obtain ⟨JJ, lb, q8⟩ := RowR.at g aR
         obtain ⟨CC, rfl, AA⟩ := q8
         refine Xk 6 (by kernel_rfl) (Jyq Z (XB (T := (Ty.sl Xf)) Mb1 g lb (Xm aR).1 Z Z Z Z Z) ⟨(Ic Mb0 (Ic Mb2 In0)), ?_⟩)
         refine Xk 7 (by kernel_rfl) (Jyq Z (Xe (v := (sv CC)) Z Z Z (XI (T := (Ty.sl Xf)) Mb1 g lb Z Z)) ⟨(Ic Mb0 (Ic Mb2 In0)), ?_⟩)
         refine Ao 8 Z ?_
         refine OpW.shift (Shift.nilTok1 70 7 (Sd ?_))
         refine Xj (T := Xf) (bytes := 88) (q := 0) Z Z Z (Slr.nil Xf _) Mb0 Z (SrcT.sl AA) dn Z Z Z Z Z Z Z Z (fun a2 FT og AB => ⟨_, .here, ⟨(Ic Mb1 (Ic Mb3 In0)), ?_⟩⟩)
         have f8 := g.mono og
         obtain ⟨JK, iz, q9⟩ := RowR.at f8 au
         obtain ⟨M9, rfl, H4⟩ := q9
         refine Xk 9 (by kernel_rfl) (Jyq Z (XB (T := (Ty.sl Xf)) Mb2 f8 iz (Xm au).1 Z Z Z Z Z) ⟨(Ic Mb1 (Ic Mb3 In0)), ?_⟩)
         refine Ao 10 Z ?_
         refine Xr (T := (Ty.sl Xf)) (vs := [(sv a2)]) (r' := [(sv a2)]) (l' := (Xz f d av)) Z Z Z Z Z (.there (.there .here)) f8 iz Z Z Z (RowR.set d f8 ⟨a2, Z, AB⟩) (fun pD => ⟨(Ic Mb1 (Ic Mb3 In0)), ?_⟩)
         have nN := XG iz (v := [(sv a2)])
         exact Ad<|Pu2<|Pu4<|Pu4<|Pu4<|Sd<|⟨_, by exact R4, (Xz f d av), (x.set d.toNat [(sv a2)]), a2, Z, Z, H, pD, nN⟩
        ·refine id (Jyq Z (Xe (v := (sv c)) Z Z Z (Rb3 Z)) ⟨(Ic Mb0 (Ic Mb2 In0)), ?_⟩)
         refine Xu 1 6 (by kernel_rfl) ?_ ?_
         ·refine id (Jyq Z (Xe (v := (sv c)) Z Z Z (Rb3 Z)) ⟨(Ic Mb0 (Ic Mb2 In0)), ?_⟩)
          obtain ⟨JL, lc, ra⟩ := RowR.at g aR
          obtain ⟨CD, rfl, AC⟩ := ra
          refine Xk 6 (by kernel_rfl) (Jyq Z (XB (T := (Ty.sl Xf)) Mb1 g lc (Xm aR).1 Z Z Z Z Z) ⟨(Ic Mb0 (Ic Mb2 In0)), ?_⟩)
          refine Xk 7 (by kernel_rfl) (Jyq Z (Xe (v := (sv CD)) Z Z Z (XI (T := (Ty.sl Xf)) Mb1 g lc Z Z)) ⟨(Ic Mb0 (Ic Mb2 In0)), ?_⟩)
          refine Ao 8 Z ?_
          refine OpW.shift (Shift.nilTok1 70 7 (Sd ?_))
          refine Xj (T := Xf) (bytes := 88) (q := 0) Z Z Z (Slr.nil Xf _) Mb0 Z (SrcT.sl AC) dn Z Z Z Z Z Z Z Z (fun a3 FU oh AD => ⟨_, .here, ⟨(Ic Mb1 (Ic Mb3 In0)), ?_⟩⟩)
          have f9 := g.mono oh
          obtain ⟨JM, iA, rb⟩ := RowR.at f9 au
          obtain ⟨Na, rfl, H5⟩ := rb
          refine Xk 9 (by kernel_rfl) (Jyq Z (XB (T := (Ty.sl Xf)) Mb2 f9 iA (Xm au).1 Z Z Z Z Z) ⟨(Ic Mb1 (Ic Mb3 In0)), ?_⟩)
          refine Ao 10 Z ?_
          refine Xr (T := (Ty.sl Xf)) (vs := [(sv a3)]) (r' := [(sv a3)]) (l' := (Xz f d av)) Z Z Z Z Z (.there (.there .here)) f9 iA Z Z Z (RowR.set d f9 ⟨a3, Z, AD⟩) (fun pE => ⟨(Ic Mb1 (Ic Mb3 In0)), ?_⟩)
          have nO := XG iA (v := [(sv a3)])
          exact Ad<|Pu2<|Pu4<|Pu4<|Pu4<|Sd<|⟨_, by exact R4, (Xz f d av), (x.set d.toNat [(sv a3)]), a3, Z, Z, H, pE, nO⟩
         ·obtain ⟨JN, iB, rc⟩ := RowR.at g aR
          obtain ⟨mP, rfl, iV⟩ := rc
          refine id (Jyq Z (XB (T := (Ty.sl Xf)) Mb1 g iB (Xm aR).1 Z Z Z Z Z) ⟨(Ic Mb0 (Ic Mb2 In0)), ?_⟩)
          refine Xu 1 7 (by kernel_rfl) ?_ ?_
          ·refine id (Jyq Z (Xe (v := (sv c)) Z Z Z (Rb3 Z)) ⟨(Ic Mb0 (Ic Mb2 In0)), ?_⟩)
           refine Xk 7 (by kernel_rfl) (Jyq Z (Xe (v := (sv mP)) Z Z Z (XI (T := (Ty.sl Xf)) Mb1 g iB Z Z)) ⟨(Ic Mb0 (Ic Mb2 In0)), ?_⟩)
           refine Ao 8 Z ?_
           refine OpW.shift (Shift.nilTok1 70 7 (Sd ?_))
           refine Xj (T := Xf) (bytes := 88) (q := 0) Z Z Z (Slr.nil Xf _) Mb0 Z (SrcT.sl iV) dn Z Z Z Z Z Z Z Z (fun a4 FV oi AE => ⟨_, .here, ⟨(Ic Mb1 (Ic Mb3 In0)), ?_⟩⟩)
           have ga := g.mono oi
           obtain ⟨JO, iC, rd⟩ := RowR.at ga au
           obtain ⟨Nb, rfl, H6⟩ := rd
           refine Xk 9 (by kernel_rfl) (Jyq Z (XB (T := (Ty.sl Xf)) Mb2 ga iC (Xm au).1 Z Z Z Z Z) ⟨(Ic Mb1 (Ic Mb3 In0)), ?_⟩)
           refine Ao 10 Z ?_
           refine Xr (T := (Ty.sl Xf)) (vs := [(sv a4)]) (r' := [(sv a4)]) (l' := (Xz f d av)) Z Z Z Z Z (.there (.there .here)) ga iC Z Z Z (RowR.set d ga ⟨a4, Z, AE⟩) (fun pF => ⟨(Ic Mb1 (Ic Mb3 In0)), ?_⟩)
           have nP := XG iC (v := [(sv a4)])
           exact Ad<|Pu2<|Pu4<|Pu4<|Pu4<|Sd<|⟨_, by exact R4, (Xz f d av), (x.set d.toNat [(sv a4)]), a4, Z, Z, H, pF, nP⟩
          ·refine id (Jyq Z (Xe (v := (sv mP)) Z Z Z (XI (T := (Ty.sl Xf)) Mb1 g iB Z Z)) ⟨(Ic Mb0 (Ic Mb2 In0)), ?_⟩)
           refine Xu 1 8 (by kernel_rfl) ?_ ?_
           ·refine id (Jyq Z (Xe (v := (sv c)) Z Z Z (Rb3 Z)) ⟨(Ic Mb0 (Ic Mb2 In0)), ?_⟩)
            refine Ao 8 Z ?_
            refine OpW.shift (Shift.nilTok1 70 7 (Sd ?_))
            refine Xj (T := Xf) (bytes := 88) (q := 0) Z Z Z (Slr.nil Xf _) Mb0 Z (SrcT.sl iV) dn Z Z Z Z Z Z Z Z (fun a5 FW oj AF => ⟨_, .here, ⟨(Ic Mb1 (Ic Mb3 In0)), ?_⟩⟩)
            have gb := g.mono oj
            obtain ⟨JP, iD, re⟩ := RowR.at gb au
            obtain ⟨Nc, rfl, H7⟩ := re
            refine Xk 9 (by kernel_rfl) (Jyq Z (XB (T := (Ty.sl Xf)) Mb2 gb iD (Xm au).1 Z Z Z Z Z) ⟨(Ic Mb1 (Ic Mb3 In0)), ?_⟩)
            refine Ao 10 Z ?_
            refine Xr (T := (Ty.sl Xf)) (vs := [(sv a5)]) (r' := [(sv a5)]) (l' := (Xz f d av)) Z Z Z Z Z (.there (.there .here)) gb iD Z Z Z (RowR.set d gb ⟨a5, Z, AF⟩) (fun pG => ⟨(Ic Mb1 (Ic Mb3 In0)), ?_⟩)
            have nQ := XG iD (v := [(sv a5)])
            exact Ad<|Pu2<|Pu4<|Pu4<|Pu4<|Sd<|⟨_, by exact R4, (Xz f d av), (x.set d.toNat [(sv a5)]), a5, Z, Z, H, pG, nQ⟩
           ·refine id (Jy Z ?_)
            refine OpW.shift (Shift.nilTok1 70 7 (Sd ?_))
            refine Xj (T := Xf) (bytes := 88) (q := 0) Z Z Z (Slr.nil Xf _) Mb0 Z (SrcT.sl iV) dn Z Z Z Z Z Z Z Z (fun a6 FX ol AG => ⟨_, .here, ⟨(Ic Mb1 (Ic Mb3 In0)), ?_⟩⟩)
            refine Xk 1 (by kernel_rfl) (Jyq Z (Xe (v := (sv c)) Z Z Z (Rb4 Z)) ⟨(Ic Mb1 (Ic Mb3 In0)), ?_⟩)
            have gc := g.mono ol
            obtain ⟨JQ, iE, rf⟩ := RowR.at gc au
            obtain ⟨Nd, rfl, H8⟩ := rf
            refine Xk 9 (by kernel_rfl) (Jyq Z (XB (T := (Ty.sl Xf)) Mb2 gc iE (Xm au).1 Z Z Z Z Z) ⟨(Ic Mb1 (Ic Mb3 In0)), ?_⟩)
            refine Ao 10 Z ?_
            refine Xr (T := (Ty.sl Xf)) (vs := [(sv a6)]) (r' := [(sv a6)]) (l' := (Xz f d av)) Z Z Z Z Z (.there (.there .here)) gc iE Z Z Z (RowR.set d gc ⟨a6, Z, AG⟩) (fun pH => ⟨(Ic Mb1 (Ic Mb3 In0)), ?_⟩)
            have nR := XG iE (v := [(sv a6)])
            exact Ad<|Pu2<|Pu4<|Pu4<|Pu4<|Sd<|⟨_, by exact R4, (Xz f d av), (x.set d.toNat [(sv a6)]), a6, Z, Z, H, pH, nR⟩
       rintro _ FY _ hv ⟨dp, dq, gC, rfl, rfl, H, pC, Bk⟩
       unfold afA at H
       refine XA ?_
       refine XO (fun mz bx K' G' => ∃ (Q R : Int) (A : ac3) (S : List (List Value)) (y : SV), [(0, (Vp n)), (3, (Vp aM)), (4, (Vp aN)), (6, (Vi d))] = bx ∧ (.blk n 55 (Xn (W8.mk p0.list Q R) o)) :: (.blk aN 33 (Xc (Script.mk (Config.mk [] [] 0) [] []) Xo Xo Xo Xo)) :: (.blk aM 33 (Xc (Script.mk p1.cnfg A p1.picks) t e c w)) :: (.row (sv c) 51 1 S.flatten) :: (.tok 70 7 [(sv y)]) :: G = G' ∧ lp3 (afz d p0 p1) mz Q R A = some (y0, bv, bw) ∧ RowR (Ty.sl Xf) K' S A ∧ S[d.toNat]? = some [(sv y)]) BIG ?_ ?_
       ·exact Pu4<|Pu4<|Pu4<|Pu4<|Pu4<|Sd<|⟨_, by exact R4, gF, ((W8.mk p0.list D p0.value).value), dp, dq, gC, Z, Z, H, pC, Bk⟩
       rintro mz _ ak _ hw ⟨Q, R, A, S, y, rfl, rfl, H, u, M⟩
       obtain ⟨IB, IA, rfl, V, H⟩ := akr H
       unfold afz at H
       refine Xd<|Xd<|?_
       obtain ⟨NB, my, H⟩ := bnd H
       obtain ⟨mY, U, Bu, H⟩ := Yf H
       refine XH _ Z (Ic Mb1 (Ic Mb2 (Ic Mb3 (Ic Mb4 In0))))<|JF 0 3 Z<|Jl 1 (sv c) Z (Rb1 Z)<|Jm 2 Z<|?_
       obtain ⟨JR, iF, rg⟩ := RowR.at u my
       obtain ⟨CE, rfl, AH⟩ := rg
       obtain rfl : y = CE := XW M iF
       refine Jq 3 Z (XB (T := (Ty.sl Xf)) Mb2 u iF (Xm my).1 Z Z Z Z Z)<|Jl 4 (sv y) Z (XI (T := (Ty.sl Xf)) Mb2 u iF Z Z)<|Jq 5 Z (XN (T := Xf) AH Z Z)<|Jm 6 Z<|?_
       refine Ao 7 Z ?_
       have AI := (F.mono hv).mono hw
       refine Ek Tryz.call21 Z (XU n (W8.mk p0.list Q R) o 2 mY U Bu _ _ AI) ?_
       rintro _ _ _ - ⟨rfl, rfl, rfl⟩
       refine ⟨(Ic Mb1 (Ic Mb2 (Ic Mb3 (Ic Mb4 In0)))), ?_⟩
       refine Jr 8 (wI (16 + mY)) Z<|Jc 9 Z<|Ad<|?_
       refine Xp Z ?_ ?_
       ·intro bE
        obtain ⟨bE, H⟩ := It bE H
        refine Xt<|XA<|?_
        obtain ⟨NC, Y, H⟩ := bnd H
        obtain ⟨E, W, H⟩ := bnd H
        obtain ⟨ND, C, H⟩ := bnd H
        refine XH _ Z (Ic Mb0 (Ic Mb1 In0))<|JF 0 3 Z<|Jm 2 Z<|JF 3 3 Z<|Jm 5 Z<|Jq 8 Z (XV (cs := (Xb (Op.mk 5 0 0 0 0 [] []) Xo Xo)) Z Z Z Z Z Z)<|?_
        refine Ye 1 4 9 (by kernel_rfl) ?_ ?_ ?_
        ·refine id (Jyq Z (Xe (v := (sv c)) Z Z Z (Rb2 Z)) ⟨(Ic Mb0 (Ic Mb1 In0)), ?_⟩)
         refine Xu 4 9 (by kernel_rfl) ?_ ?_
         ·refine id (Jyq Z (Xe (v := (sv c)) Z Z Z (Rb2 Z)) ⟨(Ic Mb0 (Ic Mb1 In0)), ?_⟩)
          refine Xu 6 9 (by kernel_rfl) ?_ ?_
          ·obtain ⟨JS, eS, rh⟩ := RowR.at u Y
           obtain ⟨CF, rfl, mw⟩ := rh
           obtain rfl : y = CF := XW M eS
           refine id (Jyq Z (XB (T := (Ty.sl Xf)) Mb3 u eS (Xm Y).1 Z Z Z Z Z) ⟨(Ic Mb0 (Ic Mb1 In0)), ?_⟩)
           refine Xu 7 9 (by kernel_rfl) ?_ ?_
           ·refine id (Jyq Z (Xe (v := (sv y)) Z Z Z (XI (T := (Ty.sl Xf)) Mb3 u eS Z Z)) ⟨(Ic Mb0 (Ic Mb1 In0)), ?_⟩)
            refine Ao 9 Z ?_
            have kU : RowR Xf ak [(Xb (Op.mk 5 0 0 0 0 [] []) Xo Xo)] [(Op.mk 5 0 0 0 0 [] [])] := RowR.cons ⟨Xo, Xo, Z, (Slr.nil XC _), (Slr.nil Ty.i64 _)⟩ (RowR.nil)
            refine Xx (T := Xf) (rows := [(Xb (Op.mk 5 0 0 0 0 [] []) Xo Xo)]) (l := [(Op.mk 5 0 0 0 0 [] [])]) Z Z Z kU Z Z Z Z Z Z Z Z (fun Nf => ⟨(Ic Mb1 (Ic Mb2 In0)), ?_⟩)
            refine Ao 10 Z ?_
            refine Xj (T := Xf) (bytes := 88) (q := 0) Z Z Z mw Mb5 Z (SrcT.row Mb0 kU Z) W Z Z Z Z Z Z Z Z (fun a7 FZ om AJ => ⟨_, (.there (.there (.there (.there (.there .here))))), ⟨(Ic Mb1 (Ic Mb2 In0)), ?_⟩⟩)
            refine Aw.shift (Re0 (Sd ⟨(Ic Mb0 (Ic Mb1 In0)), ?_⟩))
            have gd := u.mono om
            obtain ⟨JT, eT, ri⟩ := RowR.at gd C
            obtain ⟨CG, rfl, H9⟩ := ri
            obtain rfl : y = CG := XW M eT
            refine Xk 11 (by kernel_rfl) (Jyq Z (XB (T := (Ty.sl Xf)) Mb3 gd eT (Xm C).1 Z Z Z Z Z) ⟨(Ic Mb0 (Ic Mb1 In0)), ?_⟩)
            refine Ao 12 Z ?_
            refine Xr (T := (Ty.sl Xf)) (vs := [(sv a7)]) (r' := [(sv a7)]) (l' := (Xz A d E)) Z Z Z Z Z (.there (.there (.there .here))) gd eT Z Z Z (RowR.set d gd ⟨a7, Z, AJ⟩) (fun pI => ⟨(Ic Mb0 (Ic Mb1 In0)), ?_⟩)
            have nS := XG eT (v := [(sv a7)])
            exact Ad<|Pu4<|Pu4<|Pu4<|Pu4<|Pu4<|Sd<|⟨_, by exact R4, _, Nat.lt_succ_self _, U, ((W8.mk p0.list Q R).value), (Xz A d E), (S.set d.toNat [(sv a7)]), a7, Z, Z, (V ▸ H), pI, nS⟩
           ·refine id (Jy Z ?_)
            have kV : RowR Xf ak [(Xb (Op.mk 5 0 0 0 0 [] []) Xo Xo)] [(Op.mk 5 0 0 0 0 [] [])] := RowR.cons ⟨Xo, Xo, Z, (Slr.nil XC _), (Slr.nil Ty.i64 _)⟩ (RowR.nil)
            refine Xx (T := Xf) (rows := [(Xb (Op.mk 5 0 0 0 0 [] []) Xo Xo)]) (l := [(Op.mk 5 0 0 0 0 [] [])]) Z Z Z kV Z Z Z Z Z Z Z Z (fun Ng => ⟨(Ic Mb1 (Ic Mb2 In0)), ?_⟩)
            refine Xk 7 (by kernel_rfl) (Jyq Z (Xe (v := (sv y)) Z Z Z (XI (T := (Ty.sl Xf)) Mb4 u eS Z Z)) ⟨(Ic Mb1 (Ic Mb2 In0)), ?_⟩)
            refine Ao 10 Z ?_
            refine Xj (T := Xf) (bytes := 88) (q := 0) Z Z Z mw Mb5 Z (SrcT.row Mb0 kV Z) W Z Z Z Z Z Z Z Z (fun a8 F0 on AK => ⟨_, (.there (.there (.there (.there (.there .here))))), ⟨(Ic Mb1 (Ic Mb2 In0)), ?_⟩⟩)
            refine Aw.shift (Re0 (Sd ⟨(Ic Mb0 (Ic Mb1 In0)), ?_⟩))
            have ge := u.mono on
            obtain ⟨JU, eU, rj⟩ := RowR.at ge C
            obtain ⟨CH, rfl, Ia⟩ := rj
            obtain rfl : y = CH := XW M eU
            refine Xk 11 (by kernel_rfl) (Jyq Z (XB (T := (Ty.sl Xf)) Mb3 ge eU (Xm C).1 Z Z Z Z Z) ⟨(Ic Mb0 (Ic Mb1 In0)), ?_⟩)
            refine Ao 12 Z ?_
            refine Xr (T := (Ty.sl Xf)) (vs := [(sv a8)]) (r' := [(sv a8)]) (l' := (Xz A d E)) Z Z Z Z Z (.there (.there (.there .here))) ge eU Z Z Z (RowR.set d ge ⟨a8, Z, AK⟩) (fun pJ => ⟨(Ic Mb0 (Ic Mb1 In0)), ?_⟩)
            have nT := XG eU (v := [(sv a8)])
            exact Ad<|Pu4<|Pu4<|Pu4<|Pu4<|Pu4<|Sd<|⟨_, by exact R4, _, Nat.lt_succ_self _, U, ((W8.mk p0.list Q R).value), (Xz A d E), (S.set d.toNat [(sv a8)]), a8, Z, Z, (V ▸ H), pJ, nT⟩
          ·refine id (Jy Z ?_)
           have kW : RowR Xf ak [(Xb (Op.mk 5 0 0 0 0 [] []) Xo Xo)] [(Op.mk 5 0 0 0 0 [] [])] := RowR.cons ⟨Xo, Xo, Z, (Slr.nil XC _), (Slr.nil Ty.i64 _)⟩ (RowR.nil)
           refine Xx (T := Xf) (rows := [(Xb (Op.mk 5 0 0 0 0 [] []) Xo Xo)]) (l := [(Op.mk 5 0 0 0 0 [] [])]) Z Z Z kW Z Z Z Z Z Z Z Z (fun Nh => ⟨(Ic Mb1 (Ic Mb2 In0)), ?_⟩)
           obtain ⟨JV, iG, rk⟩ := RowR.at u Y
           obtain ⟨CI, rfl, AL⟩ := rk
           obtain rfl : y = CI := XW M iG
           refine Xk 6 (by kernel_rfl) (Jyq Z (XB (T := (Ty.sl Xf)) Mb4 u iG (Xm Y).1 Z Z Z Z Z) ⟨(Ic Mb1 (Ic Mb2 In0)), ?_⟩)
           refine Xk 7 (by kernel_rfl) (Jyq Z (Xe (v := (sv y)) Z Z Z (XI (T := (Ty.sl Xf)) Mb4 u iG Z Z)) ⟨(Ic Mb1 (Ic Mb2 In0)), ?_⟩)
           refine Ao 10 Z ?_
           refine Xj (T := Xf) (bytes := 88) (q := 0) Z Z Z AL Mb5 Z (SrcT.row Mb0 kW Z) W Z Z Z Z Z Z Z Z (fun a9 F1 oo AM => ⟨_, (.there (.there (.there (.there (.there .here))))), ⟨(Ic Mb1 (Ic Mb2 In0)), ?_⟩⟩)
           refine Aw.shift (Re0 (Sd ⟨(Ic Mb0 (Ic Mb1 In0)), ?_⟩))
           have gf := u.mono oo
           obtain ⟨JW, eV, rl⟩ := RowR.at gf C
           obtain ⟨CJ, rfl, Ib⟩ := rl
           obtain rfl : y = CJ := XW M eV
           refine Xk 11 (by kernel_rfl) (Jyq Z (XB (T := (Ty.sl Xf)) Mb3 gf eV (Xm C).1 Z Z Z Z Z) ⟨(Ic Mb0 (Ic Mb1 In0)), ?_⟩)
           refine Ao 12 Z ?_
           refine Xr (T := (Ty.sl Xf)) (vs := [(sv a9)]) (r' := [(sv a9)]) (l' := (Xz A d E)) Z Z Z Z Z (.there (.there (.there .here))) gf eV Z Z Z (RowR.set d gf ⟨a9, Z, AM⟩) (fun pK => ⟨(Ic Mb0 (Ic Mb1 In0)), ?_⟩)
           have nU := XG eV (v := [(sv a9)])
           exact Ad<|Pu4<|Pu4<|Pu4<|Pu4<|Pu4<|Sd<|⟨_, by exact R4, _, Nat.lt_succ_self _, U, ((W8.mk p0.list Q R).value), (Xz A d E), (S.set d.toNat [(sv a9)]), a9, Z, Z, (V ▸ H), pK, nU⟩
         ·refine id (Jy Z ?_)
          have kX : RowR Xf ak [(Xb (Op.mk 5 0 0 0 0 [] []) Xo Xo)] [(Op.mk 5 0 0 0 0 [] [])] := RowR.cons ⟨Xo, Xo, Z, (Slr.nil XC _), (Slr.nil Ty.i64 _)⟩ (RowR.nil)
          refine Xx (T := Xf) (rows := [(Xb (Op.mk 5 0 0 0 0 [] []) Xo Xo)]) (l := [(Op.mk 5 0 0 0 0 [] [])]) Z Z Z kX Z Z Z Z Z Z Z Z (fun Ni => ⟨(Ic Mb1 (Ic Mb2 In0)), ?_⟩)
          refine Xk 4 (by kernel_rfl) (Jyq Z (Xe (v := (sv c)) Z Z Z (Rb3 Z)) ⟨(Ic Mb1 (Ic Mb2 In0)), ?_⟩)
          obtain ⟨JX, iH, rm⟩ := RowR.at u Y
          obtain ⟨CK, rfl, AN⟩ := rm
          obtain rfl : y = CK := XW M iH
          refine Xk 6 (by kernel_rfl) (Jyq Z (XB (T := (Ty.sl Xf)) Mb4 u iH (Xm Y).1 Z Z Z Z Z) ⟨(Ic Mb1 (Ic Mb2 In0)), ?_⟩)
          refine Xk 7 (by kernel_rfl) (Jyq Z (Xe (v := (sv y)) Z Z Z (XI (T := (Ty.sl Xf)) Mb4 u iH Z Z)) ⟨(Ic Mb1 (Ic Mb2 In0)), ?_⟩)
          refine Ao 10 Z ?_
          refine Xj (T := Xf) (bytes := 88) (q := 0) Z Z Z AN Mb5 Z (SrcT.row Mb0 kX Z) W Z Z Z Z Z Z Z Z (fun ba F2 op AO => ⟨_, (.there (.there (.there (.there (.there .here))))), ⟨(Ic Mb1 (Ic Mb2 In0)), ?_⟩⟩)
          refine Aw.shift (Re0 (Sd ⟨(Ic Mb0 (Ic Mb1 In0)), ?_⟩))
          have gg := u.mono op
          obtain ⟨JY, eW, rn⟩ := RowR.at gg C
          obtain ⟨CL, rfl, Id⟩ := rn
          obtain rfl : y = CL := XW M eW
          refine Xk 11 (by kernel_rfl) (Jyq Z (XB (T := (Ty.sl Xf)) Mb3 gg eW (Xm C).1 Z Z Z Z Z) ⟨(Ic Mb0 (Ic Mb1 In0)), ?_⟩)
          refine Ao 12 Z ?_
          refine Xr (T := (Ty.sl Xf)) (vs := [(sv ba)]) (r' := [(sv ba)]) (l' := (Xz A d E)) Z Z Z Z Z (.there (.there (.there .here))) gg eW Z Z Z (RowR.set d gg ⟨ba, Z, AO⟩) (fun pL => ⟨(Ic Mb0 (Ic Mb1 In0)), ?_⟩)
          have nV := XG eW (v := [(sv ba)])
          exact Ad<|Pu4<|Pu4<|Pu4<|Pu4<|Pu4<|Sd<|⟨_, by exact R4, _, Nat.lt_succ_self _, U, ((W8.mk p0.list Q R).value), (Xz A d E), (S.set d.toNat [(sv ba)]), ba, Z, Z, (V ▸ H), pL, nV⟩
        ·refine id (Jyq Z (Xe (v := (sv c)) Z Z Z (Rb2 Z)) ⟨(Ic Mb0 (Ic Mb1 In0)), ?_⟩)
         refine Ye 1 6 9 (by kernel_rfl) ?_ ?_ ?_
         ·refine id (Jyq Z (Xe (v := (sv c)) Z Z Z (Rb2 Z)) ⟨(Ic Mb0 (Ic Mb1 In0)), ?_⟩)
          refine Xu 6 9 (by kernel_rfl) ?_ ?_
          ·obtain ⟨JZ, eX, ro⟩ := RowR.at u Y
           obtain ⟨CM, rfl, mx⟩ := ro
           obtain rfl : y = CM := XW M eX
           refine id (Jyq Z (XB (T := (Ty.sl Xf)) Mb3 u eX (Xm Y).1 Z Z Z Z Z) ⟨(Ic Mb0 (Ic Mb1 In0)), ?_⟩)
           refine Xu 7 9 (by kernel_rfl) ?_ ?_
           ·refine id (Jyq Z (Xe (v := (sv y)) Z Z Z (XI (T := (Ty.sl Xf)) Mb3 u eX Z Z)) ⟨(Ic Mb0 (Ic Mb1 In0)), ?_⟩)
            refine Ao 9 Z ?_
            have kY : RowR Xf ak [(Xb (Op.mk 5 0 0 0 0 [] []) Xo Xo)] [(Op.mk 5 0 0 0 0 [] [])] := RowR.cons ⟨Xo, Xo, Z, (Slr.nil XC _), (Slr.nil Ty.i64 _)⟩ (RowR.nil)
            refine Xx (T := Xf) (rows := [(Xb (Op.mk 5 0 0 0 0 [] []) Xo Xo)]) (l := [(Op.mk 5 0 0 0 0 [] [])]) Z Z Z kY Z Z Z Z Z Z Z Z (fun Nj => ⟨(Ic Mb1 (Ic Mb2 In0)), ?_⟩)
            refine Ao 10 Z ?_
            refine Xj (T := Xf) (bytes := 88) (q := 0) Z Z Z mx Mb5 Z (SrcT.row Mb0 kY Z) W Z Z Z Z Z Z Z Z (fun bb F3 oq AP => ⟨_, (.there (.there (.there (.there (.there .here))))), ⟨(Ic Mb1 (Ic Mb2 In0)), ?_⟩⟩)
            refine Aw.shift (Re0 (Sd ⟨(Ic Mb0 (Ic Mb1 In0)), ?_⟩))
            have gh := u.mono oq
            obtain ⟨J0, eY, rp⟩ := RowR.at gh C
            obtain ⟨CN, rfl, Ie⟩ := rp
            obtain rfl : y = CN := XW M eY
            refine Xk 11 (by kernel_rfl) (Jyq Z (XB (T := (Ty.sl Xf)) Mb3 gh eY (Xm C).1 Z Z Z Z Z) ⟨(Ic Mb0 (Ic Mb1 In0)), ?_⟩)
            refine Ao 12 Z ?_
            refine Xr (T := (Ty.sl Xf)) (vs := [(sv bb)]) (r' := [(sv bb)]) (l' := (Xz A d E)) Z Z Z Z Z (.there (.there (.there .here))) gh eY Z Z Z (RowR.set d gh ⟨bb, Z, AP⟩) (fun pM => ⟨(Ic Mb0 (Ic Mb1 In0)), ?_⟩)
            have nW := XG eY (v := [(sv bb)])
            exact Ad<|Pu4<|Pu4<|Pu4<|Pu4<|Pu4<|Sd<|⟨_, by exact R4, _, Nat.lt_succ_self _, U, ((W8.mk p0.list Q R).value), (Xz A d E), (S.set d.toNat [(sv bb)]), bb, Z, Z, (V ▸ H), pM, nW⟩
           ·refine id (Jy Z ?_)
            have kZ : RowR Xf ak [(Xb (Op.mk 5 0 0 0 0 [] []) Xo Xo)] [(Op.mk 5 0 0 0 0 [] [])] := RowR.cons ⟨Xo, Xo, Z, (Slr.nil XC _), (Slr.nil Ty.i64 _)⟩ (RowR.nil)
            refine Xx (T := Xf) (rows := [(Xb (Op.mk 5 0 0 0 0 [] []) Xo Xo)]) (l := [(Op.mk 5 0 0 0 0 [] [])]) Z Z Z kZ Z Z Z Z Z Z Z Z (fun Nk => ⟨(Ic Mb1 (Ic Mb2 In0)), ?_⟩)
            refine Xk 7 (by kernel_rfl) (Jyq Z (Xe (v := (sv y)) Z Z Z (XI (T := (Ty.sl Xf)) Mb4 u eX Z Z)) ⟨(Ic Mb1 (Ic Mb2 In0)), ?_⟩)
            refine Ao 10 Z ?_
            refine Xj (T := Xf) (bytes := 88) (q := 0) Z Z Z mx Mb5 Z (SrcT.row Mb0 kZ Z) W Z Z Z Z Z Z Z Z (fun bc F4 or AQ => ⟨_, (.there (.there (.there (.there (.there .here))))), ⟨(Ic Mb1 (Ic Mb2 In0)), ?_⟩⟩)
            refine Aw.shift (Re0 (Sd ⟨(Ic Mb0 (Ic Mb1 In0)), ?_⟩))
            have gi := u.mono or
            obtain ⟨J1, eZ, rq⟩ := RowR.at gi C
            obtain ⟨CO, rfl, Ig⟩ := rq
            obtain rfl : y = CO := XW M eZ
            refine Xk 11 (by kernel_rfl) (Jyq Z (XB (T := (Ty.sl Xf)) Mb3 gi eZ (Xm C).1 Z Z Z Z Z) ⟨(Ic Mb0 (Ic Mb1 In0)), ?_⟩)
            refine Ao 12 Z ?_
            refine Xr (T := (Ty.sl Xf)) (vs := [(sv bc)]) (r' := [(sv bc)]) (l' := (Xz A d E)) Z Z Z Z Z (.there (.there (.there .here))) gi eZ Z Z Z (RowR.set d gi ⟨bc, Z, AQ⟩) (fun pN => ⟨(Ic Mb0 (Ic Mb1 In0)), ?_⟩)
            have nX := XG eZ (v := [(sv bc)])
            exact Ad<|Pu4<|Pu4<|Pu4<|Pu4<|Pu4<|Sd<|⟨_, by exact R4, _, Nat.lt_succ_self _, U, ((W8.mk p0.list Q R).value), (Xz A d E), (S.set d.toNat [(sv bc)]), bc, Z, Z, (V ▸ H), pN, nX⟩
          ·refine id (Jy Z ?_)
           have k0 : RowR Xf ak [(Xb (Op.mk 5 0 0 0 0 [] []) Xo Xo)] [(Op.mk 5 0 0 0 0 [] [])] := RowR.cons ⟨Xo, Xo, Z, (Slr.nil XC _), (Slr.nil Ty.i64 _)⟩ (RowR.nil)
           refine Xx (T := Xf) (rows := [(Xb (Op.mk 5 0 0 0 0 [] []) Xo Xo)]) (l := [(Op.mk 5 0 0 0 0 [] [])]) Z Z Z k0 Z Z Z Z Z Z Z Z (fun Nl => ⟨(Ic Mb1 (Ic Mb2 In0)), ?_⟩)
           obtain ⟨J2, iI, rr⟩ := RowR.at u Y
           obtain ⟨CP, rfl, AR⟩ := rr
           obtain rfl : y = CP := XW M iI
           refine Xk 6 (by kernel_rfl) (Jyq Z (XB (T := (Ty.sl Xf)) Mb4 u iI (Xm Y).1 Z Z Z Z Z) ⟨(Ic Mb1 (Ic Mb2 In0)), ?_⟩)
           refine Xk 7 (by kernel_rfl) (Jyq Z (Xe (v := (sv y)) Z Z Z (XI (T := (Ty.sl Xf)) Mb4 u iI Z Z)) ⟨(Ic Mb1 (Ic Mb2 In0)), ?_⟩)
           refine Ao 10 Z ?_
           refine Xj (T := Xf) (bytes := 88) (q := 0) Z Z Z AR Mb5 Z (SrcT.row Mb0 k0 Z) W Z Z Z Z Z Z Z Z (fun bd F5 os AS => ⟨_, (.there (.there (.there (.there (.there .here))))), ⟨(Ic Mb1 (Ic Mb2 In0)), ?_⟩⟩)
           refine Aw.shift (Re0 (Sd ⟨(Ic Mb0 (Ic Mb1 In0)), ?_⟩))
           have gj := u.mono os
           obtain ⟨J3, e0, rs⟩ := RowR.at gj C
           obtain ⟨CQ, rfl, Ih⟩ := rs
           obtain rfl : y = CQ := XW M e0
           refine Xk 11 (by kernel_rfl) (Jyq Z (XB (T := (Ty.sl Xf)) Mb3 gj e0 (Xm C).1 Z Z Z Z Z) ⟨(Ic Mb0 (Ic Mb1 In0)), ?_⟩)
           refine Ao 12 Z ?_
           refine Xr (T := (Ty.sl Xf)) (vs := [(sv bd)]) (r' := [(sv bd)]) (l' := (Xz A d E)) Z Z Z Z Z (.there (.there (.there .here))) gj e0 Z Z Z (RowR.set d gj ⟨bd, Z, AS⟩) (fun pO => ⟨(Ic Mb0 (Ic Mb1 In0)), ?_⟩)
           have nY := XG e0 (v := [(sv bd)])
           exact Ad<|Pu4<|Pu4<|Pu4<|Pu4<|Pu4<|Sd<|⟨_, by exact R4, _, Nat.lt_succ_self _, U, ((W8.mk p0.list Q R).value), (Xz A d E), (S.set d.toNat [(sv bd)]), bd, Z, Z, (V ▸ H), pO, nY⟩
         ·obtain ⟨J4, aL, rt⟩ := RowR.at u Y
          obtain ⟨CR, rfl, aI⟩ := rt
          obtain rfl : y = CR := XW M aL
          refine id (Jyq Z (XB (T := (Ty.sl Xf)) Mb3 u aL (Xm Y).1 Z Z Z Z Z) ⟨(Ic Mb0 (Ic Mb1 In0)), ?_⟩)
          refine Ye 1 7 9 (by kernel_rfl) ?_ ?_ ?_
          ·refine id (Jyq Z (Xe (v := (sv c)) Z Z Z (Rb2 Z)) ⟨(Ic Mb0 (Ic Mb1 In0)), ?_⟩)
           refine Xu 7 9 (by kernel_rfl) ?_ ?_
           ·refine id (Jyq Z (Xe (v := (sv y)) Z Z Z (XI (T := (Ty.sl Xf)) Mb3 u aL Z Z)) ⟨(Ic Mb0 (Ic Mb1 In0)), ?_⟩)
            refine Ao 9 Z ?_
            have k1 : RowR Xf ak [(Xb (Op.mk 5 0 0 0 0 [] []) Xo Xo)] [(Op.mk 5 0 0 0 0 [] [])] := RowR.cons ⟨Xo, Xo, Z, (Slr.nil XC _), (Slr.nil Ty.i64 _)⟩ (RowR.nil)
            refine Xx (T := Xf) (rows := [(Xb (Op.mk 5 0 0 0 0 [] []) Xo Xo)]) (l := [(Op.mk 5 0 0 0 0 [] [])]) Z Z Z k1 Z Z Z Z Z Z Z Z (fun Nm => ⟨(Ic Mb1 (Ic Mb2 In0)), ?_⟩)
            refine Ao 10 Z ?_
            refine Xj (T := Xf) (bytes := 88) (q := 0) Z Z Z aI Mb5 Z (SrcT.row Mb0 k1 Z) W Z Z Z Z Z Z Z Z (fun be F6 ot AT => ⟨_, (.there (.there (.there (.there (.there .here))))), ⟨(Ic Mb1 (Ic Mb2 In0)), ?_⟩⟩)
            refine Aw.shift (Re0 (Sd ⟨(Ic Mb0 (Ic Mb1 In0)), ?_⟩))
            have gk := u.mono ot
            obtain ⟨J5, e1, ru⟩ := RowR.at gk C
            obtain ⟨CS, rfl, Ii⟩ := ru
            obtain rfl : y = CS := XW M e1
            refine Xk 11 (by kernel_rfl) (Jyq Z (XB (T := (Ty.sl Xf)) Mb3 gk e1 (Xm C).1 Z Z Z Z Z) ⟨(Ic Mb0 (Ic Mb1 In0)), ?_⟩)
            refine Ao 12 Z ?_
            refine Xr (T := (Ty.sl Xf)) (vs := [(sv be)]) (r' := [(sv be)]) (l' := (Xz A d E)) Z Z Z Z Z (.there (.there (.there .here))) gk e1 Z Z Z (RowR.set d gk ⟨be, Z, AT⟩) (fun pP => ⟨(Ic Mb0 (Ic Mb1 In0)), ?_⟩)
            have nZ := XG e1 (v := [(sv be)])
            exact Ad<|Pu4<|Pu4<|Pu4<|Pu4<|Pu4<|Sd<|⟨_, by exact R4, _, Nat.lt_succ_self _, U, ((W8.mk p0.list Q R).value), (Xz A d E), (S.set d.toNat [(sv be)]), be, Z, Z, (V ▸ H), pP, nZ⟩
           ·refine id (Jy Z ?_)
            have k2 : RowR Xf ak [(Xb (Op.mk 5 0 0 0 0 [] []) Xo Xo)] [(Op.mk 5 0 0 0 0 [] [])] := RowR.cons ⟨Xo, Xo, Z, (Slr.nil XC _), (Slr.nil Ty.i64 _)⟩ (RowR.nil)
            refine Xx (T := Xf) (rows := [(Xb (Op.mk 5 0 0 0 0 [] []) Xo Xo)]) (l := [(Op.mk 5 0 0 0 0 [] [])]) Z Z Z k2 Z Z Z Z Z Z Z Z (fun Nn => ⟨(Ic Mb1 (Ic Mb2 In0)), ?_⟩)
            refine Xk 7 (by kernel_rfl) (Jyq Z (Xe (v := (sv y)) Z Z Z (XI (T := (Ty.sl Xf)) Mb4 u aL Z Z)) ⟨(Ic Mb1 (Ic Mb2 In0)), ?_⟩)
            refine Ao 10 Z ?_
            refine Xj (T := Xf) (bytes := 88) (q := 0) Z Z Z aI Mb5 Z (SrcT.row Mb0 k2 Z) W Z Z Z Z Z Z Z Z (fun bf F7 ou AU => ⟨_, (.there (.there (.there (.there (.there .here))))), ⟨(Ic Mb1 (Ic Mb2 In0)), ?_⟩⟩)
            refine Aw.shift (Re0 (Sd ⟨(Ic Mb0 (Ic Mb1 In0)), ?_⟩))
            have gl := u.mono ou
            obtain ⟨J6, e2, rv⟩ := RowR.at gl C
            obtain ⟨CT, rfl, Ij⟩ := rv
            obtain rfl : y = CT := XW M e2
            refine Xk 11 (by kernel_rfl) (Jyq Z (XB (T := (Ty.sl Xf)) Mb3 gl e2 (Xm C).1 Z Z Z Z Z) ⟨(Ic Mb0 (Ic Mb1 In0)), ?_⟩)
            refine Ao 12 Z ?_
            refine Xr (T := (Ty.sl Xf)) (vs := [(sv bf)]) (r' := [(sv bf)]) (l' := (Xz A d E)) Z Z Z Z Z (.there (.there (.there .here))) gl e2 Z Z Z (RowR.set d gl ⟨bf, Z, AU⟩) (fun pQ => ⟨(Ic Mb0 (Ic Mb1 In0)), ?_⟩)
            have n0 := XG e2 (v := [(sv bf)])
            exact Ad<|Pu4<|Pu4<|Pu4<|Pu4<|Pu4<|Sd<|⟨_, by exact R4, _, Nat.lt_succ_self _, U, ((W8.mk p0.list Q R).value), (Xz A d E), (S.set d.toNat [(sv bf)]), bf, Z, Z, (V ▸ H), pQ, n0⟩
          ·refine id (Jyq Z (Xe (v := (sv y)) Z Z Z (XI (T := (Ty.sl Xf)) Mb3 u aL Z Z)) ⟨(Ic Mb0 (Ic Mb1 In0)), ?_⟩)
           refine Xu 1 9 (by kernel_rfl) ?_ ?_
           ·refine id (Jyq Z (Xe (v := (sv c)) Z Z Z (Rb2 Z)) ⟨(Ic Mb0 (Ic Mb1 In0)), ?_⟩)
            refine Ao 9 Z ?_
            have k3 : RowR Xf ak [(Xb (Op.mk 5 0 0 0 0 [] []) Xo Xo)] [(Op.mk 5 0 0 0 0 [] [])] := RowR.cons ⟨Xo, Xo, Z, (Slr.nil XC _), (Slr.nil Ty.i64 _)⟩ (RowR.nil)
            refine Xx (T := Xf) (rows := [(Xb (Op.mk 5 0 0 0 0 [] []) Xo Xo)]) (l := [(Op.mk 5 0 0 0 0 [] [])]) Z Z Z k3 Z Z Z Z Z Z Z Z (fun No => ⟨(Ic Mb1 (Ic Mb2 In0)), ?_⟩)
            refine Ao 10 Z ?_
            refine Xj (T := Xf) (bytes := 88) (q := 0) Z Z Z aI Mb5 Z (SrcT.row Mb0 k3 Z) W Z Z Z Z Z Z Z Z (fun bg F8 ov AV => ⟨_, (.there (.there (.there (.there (.there .here))))), ⟨(Ic Mb1 (Ic Mb2 In0)), ?_⟩⟩)
            refine Aw.shift (Re0 (Sd ⟨(Ic Mb0 (Ic Mb1 In0)), ?_⟩))
            have gm := u.mono ov
            obtain ⟨J7, e3, rx⟩ := RowR.at gm C
            obtain ⟨CU, rfl, Ik⟩ := rx
            obtain rfl : y = CU := XW M e3
            refine Xk 11 (by kernel_rfl) (Jyq Z (XB (T := (Ty.sl Xf)) Mb3 gm e3 (Xm C).1 Z Z Z Z Z) ⟨(Ic Mb0 (Ic Mb1 In0)), ?_⟩)
            refine Ao 12 Z ?_
            refine Xr (T := (Ty.sl Xf)) (vs := [(sv bg)]) (r' := [(sv bg)]) (l' := (Xz A d E)) Z Z Z Z Z (.there (.there (.there .here))) gm e3 Z Z Z (RowR.set d gm ⟨bg, Z, AV⟩) (fun pR => ⟨(Ic Mb0 (Ic Mb1 In0)), ?_⟩)
            have n1 := XG e3 (v := [(sv bg)])
            exact Ad<|Pu4<|Pu4<|Pu4<|Pu4<|Pu4<|Sd<|⟨_, by exact R4, _, Nat.lt_succ_self _, U, ((W8.mk p0.list Q R).value), (Xz A d E), (S.set d.toNat [(sv bg)]), bg, Z, Z, (V ▸ H), pR, n1⟩
           ·refine id (Jy Z ?_)
            have hC : RowR Xf ak [(Xb (Op.mk 5 0 0 0 0 [] []) Xo Xo)] [(Op.mk 5 0 0 0 0 [] [])] := RowR.cons ⟨Xo, Xo, Z, (Slr.nil XC _), (Slr.nil Ty.i64 _)⟩ (RowR.nil)
            refine Xx (T := Xf) (rows := [(Xb (Op.mk 5 0 0 0 0 [] []) Xo Xo)]) (l := [(Op.mk 5 0 0 0 0 [] [])]) Z Z Z hC Z Z Z Z Z Z Z Z (fun Np => ⟨(Ic Mb1 (Ic Mb2 In0)), ?_⟩)
            refine Xu 1 10 (by kernel_rfl) ?_ ?_
            ·refine id (Jyq Z (Xe (v := (sv c)) Z Z Z (Rb3 Z)) ⟨(Ic Mb1 (Ic Mb2 In0)), ?_⟩)
             refine Ao 10 Z ?_
             refine Xj (T := Xf) (bytes := 88) (q := 0) Z Z Z aI Mb5 Z (SrcT.row Mb0 hC Z) W Z Z Z Z Z Z Z Z (fun bh F9 ow AW => ⟨_, (.there (.there (.there (.there (.there .here))))), ⟨(Ic Mb1 (Ic Mb2 In0)), ?_⟩⟩)
             refine Aw.shift (Re0 (Sd ⟨(Ic Mb0 (Ic Mb1 In0)), ?_⟩))
             have gn := u.mono ow
             obtain ⟨J8, e4, ry⟩ := RowR.at gn C
             obtain ⟨CV, rfl, Il⟩ := ry
             obtain rfl : y = CV := XW M e4
             refine Xk 11 (by kernel_rfl) (Jyq Z (XB (T := (Ty.sl Xf)) Mb3 gn e4 (Xm C).1 Z Z Z Z Z) ⟨(Ic Mb0 (Ic Mb1 In0)), ?_⟩)
             refine Ao 12 Z ?_
             refine Xr (T := (Ty.sl Xf)) (vs := [(sv bh)]) (r' := [(sv bh)]) (l' := (Xz A d E)) Z Z Z Z Z (.there (.there (.there .here))) gn e4 Z Z Z (RowR.set d gn ⟨bh, Z, AW⟩) (fun pS => ⟨(Ic Mb0 (Ic Mb1 In0)), ?_⟩)
             have n2 := XG e4 (v := [(sv bh)])
             exact Ad<|Pu4<|Pu4<|Pu4<|Pu4<|Pu4<|Sd<|⟨_, by exact R4, _, Nat.lt_succ_self _, U, ((W8.mk p0.list Q R).value), (Xz A d E), (S.set d.toNat [(sv bh)]), bh, Z, Z, (V ▸ H), pS, n2⟩
            ·refine id (Jy Z ?_)
             refine Xj (T := Xf) (bytes := 88) (q := 0) Z Z Z aI Mb5 Z (SrcT.row Mb0 hC Z) W Z Z Z Z Z Z Z Z (fun bi Ga ox AX => ⟨_, (.there (.there (.there (.there (.there .here))))), ⟨(Ic Mb1 (Ic Mb2 In0)), ?_⟩⟩)
             refine Aw.shift (Re0 (Sd ⟨(Ic Mb0 (Ic Mb1 In0)), ?_⟩))
             refine Xk 1 (by kernel_rfl) (Jyq Z (Xe (v := (sv c)) Z Z Z (Rb2 Z)) ⟨(Ic Mb0 (Ic Mb1 In0)), ?_⟩)
             have go := u.mono ox
             obtain ⟨J9, e5, rz⟩ := RowR.at go C
             obtain ⟨CW, rfl, Im⟩ := rz
             obtain rfl : y = CW := XW M e5
             refine Xk 11 (by kernel_rfl) (Jyq Z (XB (T := (Ty.sl Xf)) Mb3 go e5 (Xm C).1 Z Z Z Z Z) ⟨(Ic Mb0 (Ic Mb1 In0)), ?_⟩)
             refine Ao 12 Z ?_
             refine Xr (T := (Ty.sl Xf)) (vs := [(sv bi)]) (r' := [(sv bi)]) (l' := (Xz A d E)) Z Z Z Z Z (.there (.there (.there .here))) go e5 Z Z Z (RowR.set d go ⟨bi, Z, AX⟩) (fun pT => ⟨(Ic Mb0 (Ic Mb1 In0)), ?_⟩)
             have n3 := XG e5 (v := [(sv bi)])
             exact Ad<|Pu4<|Pu4<|Pu4<|Pu4<|Pu4<|Sd<|⟨_, by exact R4, _, Nat.lt_succ_self _, U, ((W8.mk p0.list Q R).value), (Xz A d E), (S.set d.toNat [(sv bi)]), bi, Z, Z, (V ▸ H), pT, n3⟩
          ·refine id (Jy Z ?_)
           have eR : RowR Xf ak [(Xb (Op.mk 5 0 0 0 0 [] []) Xo Xo)] [(Op.mk 5 0 0 0 0 [] [])] := RowR.cons ⟨Xo, Xo, Z, (Slr.nil XC _), (Slr.nil Ty.i64 _)⟩ (RowR.nil)
           refine Xx (T := Xf) (rows := [(Xb (Op.mk 5 0 0 0 0 [] []) Xo Xo)]) (l := [(Op.mk 5 0 0 0 0 [] [])]) Z Z Z eR Z Z Z Z Z Z Z Z (fun Nq => ⟨(Ic Mb1 (Ic Mb2 In0)), ?_⟩)
           refine Xu 1 7 (by kernel_rfl) ?_ ?_
           ·refine id (Jyq Z (Xe (v := (sv c)) Z Z Z (Rb3 Z)) ⟨(Ic Mb1 (Ic Mb2 In0)), ?_⟩)
            refine Xk 7 (by kernel_rfl) (Jyq Z (Xe (v := (sv y)) Z Z Z (XI (T := (Ty.sl Xf)) Mb4 u aL Z Z)) ⟨(Ic Mb1 (Ic Mb2 In0)), ?_⟩)
            refine Ao 10 Z ?_
            refine Xj (T := Xf) (bytes := 88) (q := 0) Z Z Z aI Mb5 Z (SrcT.row Mb0 eR Z) W Z Z Z Z Z Z Z Z (fun bj Gb oy AY => ⟨_, (.there (.there (.there (.there (.there .here))))), ⟨(Ic Mb1 (Ic Mb2 In0)), ?_⟩⟩)
            refine Aw.shift (Re0 (Sd ⟨(Ic Mb0 (Ic Mb1 In0)), ?_⟩))
            have gp := u.mono oy
            obtain ⟨Ka, e6, rA⟩ := RowR.at gp C
            obtain ⟨CX, rfl, In⟩ := rA
            obtain rfl : y = CX := XW M e6
            refine Xk 11 (by kernel_rfl) (Jyq Z (XB (T := (Ty.sl Xf)) Mb3 gp e6 (Xm C).1 Z Z Z Z Z) ⟨(Ic Mb0 (Ic Mb1 In0)), ?_⟩)
            refine Ao 12 Z ?_
            refine Xr (T := (Ty.sl Xf)) (vs := [(sv bj)]) (r' := [(sv bj)]) (l' := (Xz A d E)) Z Z Z Z Z (.there (.there (.there .here))) gp e6 Z Z Z (RowR.set d gp ⟨bj, Z, AY⟩) (fun pU => ⟨(Ic Mb0 (Ic Mb1 In0)), ?_⟩)
            have n4 := XG e6 (v := [(sv bj)])
            exact Ad<|Pu4<|Pu4<|Pu4<|Pu4<|Pu4<|Sd<|⟨_, by exact R4, _, Nat.lt_succ_self _, U, ((W8.mk p0.list Q R).value), (Xz A d E), (S.set d.toNat [(sv bj)]), bj, Z, Z, (V ▸ H), pU, n4⟩
           ·refine id (Jyq Z (Xe (v := (sv y)) Z Z Z (XI (T := (Ty.sl Xf)) Mb4 u aL Z Z)) ⟨(Ic Mb1 (Ic Mb2 In0)), ?_⟩)
            refine Xu 1 10 (by kernel_rfl) ?_ ?_
            ·refine id (Jyq Z (Xe (v := (sv c)) Z Z Z (Rb3 Z)) ⟨(Ic Mb1 (Ic Mb2 In0)), ?_⟩)
             refine Ao 10 Z ?_
             refine Xj (T := Xf) (bytes := 88) (q := 0) Z Z Z aI Mb5 Z (SrcT.row Mb0 eR Z) W Z Z Z Z Z Z Z Z (fun bk Gc oz AZ => ⟨_, (.there (.there (.there (.there (.there .here))))), ⟨(Ic Mb1 (Ic Mb2 In0)), ?_⟩⟩)
             refine Aw.shift (Re0 (Sd ⟨(Ic Mb0 (Ic Mb1 In0)), ?_⟩))
             have gq := u.mono oz
             obtain ⟨Kb, e7, rB⟩ := RowR.at gq C
             obtain ⟨CY, rfl, Io⟩ := rB
             obtain rfl : y = CY := XW M e7
             refine Xk 11 (by kernel_rfl) (Jyq Z (XB (T := (Ty.sl Xf)) Mb3 gq e7 (Xm C).1 Z Z Z Z Z) ⟨(Ic Mb0 (Ic Mb1 In0)), ?_⟩)
             refine Ao 12 Z ?_
             refine Xr (T := (Ty.sl Xf)) (vs := [(sv bk)]) (r' := [(sv bk)]) (l' := (Xz A d E)) Z Z Z Z Z (.there (.there (.there .here))) gq e7 Z Z Z (RowR.set d gq ⟨bk, Z, AZ⟩) (fun pV => ⟨(Ic Mb0 (Ic Mb1 In0)), ?_⟩)
             have n5 := XG e7 (v := [(sv bk)])
             exact Ad<|Pu4<|Pu4<|Pu4<|Pu4<|Pu4<|Sd<|⟨_, by exact R4, _, Nat.lt_succ_self _, U, ((W8.mk p0.list Q R).value), (Xz A d E), (S.set d.toNat [(sv bk)]), bk, Z, Z, (V ▸ H), pV, n5⟩
            ·refine id (Jy Z ?_)
             refine Xj (T := Xf) (bytes := 88) (q := 0) Z Z Z aI Mb5 Z (SrcT.row Mb0 eR Z) W Z Z Z Z Z Z Z Z (fun bl Gd oA A0 => ⟨_, (.there (.there (.there (.there (.there .here))))), ⟨(Ic Mb1 (Ic Mb2 In0)), ?_⟩⟩)
             refine Aw.shift (Re0 (Sd ⟨(Ic Mb0 (Ic Mb1 In0)), ?_⟩))
             refine Xk 1 (by kernel_rfl) (Jyq Z (Xe (v := (sv c)) Z Z Z (Rb2 Z)) ⟨(Ic Mb0 (Ic Mb1 In0)), ?_⟩)
             have gr := u.mono oA
             obtain ⟨Kc, e8, rC⟩ := RowR.at gr C
             obtain ⟨CZ, rfl, Ip⟩ := rC
             obtain rfl : y = CZ := XW M e8
             refine Xk 11 (by kernel_rfl) (Jyq Z (XB (T := (Ty.sl Xf)) Mb3 gr e8 (Xm C).1 Z Z Z Z Z) ⟨(Ic Mb0 (Ic Mb1 In0)), ?_⟩)
             refine Ao 12 Z ?_
             refine Xr (T := (Ty.sl Xf)) (vs := [(sv bl)]) (r' := [(sv bl)]) (l' := (Xz A d E)) Z Z Z Z Z (.there (.there (.there .here))) gr e8 Z Z Z (RowR.set d gr ⟨bl, Z, A0⟩) (fun pW => ⟨(Ic Mb0 (Ic Mb1 In0)), ?_⟩)
             have n6 := XG e8 (v := [(sv bl)])
             exact Ad<|Pu4<|Pu4<|Pu4<|Pu4<|Pu4<|Sd<|⟨_, by exact R4, _, Nat.lt_succ_self _, U, ((W8.mk p0.list Q R).value), (Xz A d E), (S.set d.toNat [(sv bl)]), bl, Z, Z, (V ▸ H), pW, n6⟩
         ·refine id (Jy Z ?_)
          have dd : RowR Xf ak [(Xb (Op.mk 5 0 0 0 0 [] []) Xo Xo)] [(Op.mk 5 0 0 0 0 [] [])] := RowR.cons ⟨Xo, Xo, Z, (Slr.nil XC _), (Slr.nil Ty.i64 _)⟩ (RowR.nil)
          refine Xx (T := Xf) (rows := [(Xb (Op.mk 5 0 0 0 0 [] []) Xo Xo)]) (l := [(Op.mk 5 0 0 0 0 [] [])]) Z Z Z dd Z Z Z Z Z Z Z Z (fun Nr => ⟨(Ic Mb1 (Ic Mb2 In0)), ?_⟩)
          refine Xu 1 6 (by kernel_rfl) ?_ ?_
          ·refine id (Jyq Z (Xe (v := (sv c)) Z Z Z (Rb3 Z)) ⟨(Ic Mb1 (Ic Mb2 In0)), ?_⟩)
           obtain ⟨Kd, iJ, rD⟩ := RowR.at u Y
           obtain ⟨C0, rfl, A1⟩ := rD
           obtain rfl : y = C0 := XW M iJ
           refine Xk 6 (by kernel_rfl) (Jyq Z (XB (T := (Ty.sl Xf)) Mb4 u iJ (Xm Y).1 Z Z Z Z Z) ⟨(Ic Mb1 (Ic Mb2 In0)), ?_⟩)
           refine Xk 7 (by kernel_rfl) (Jyq Z (Xe (v := (sv y)) Z Z Z (XI (T := (Ty.sl Xf)) Mb4 u iJ Z Z)) ⟨(Ic Mb1 (Ic Mb2 In0)), ?_⟩)
           refine Ao 10 Z ?_
           refine Xj (T := Xf) (bytes := 88) (q := 0) Z Z Z A1 Mb5 Z (SrcT.row Mb0 dd Z) W Z Z Z Z Z Z Z Z (fun bm Ge oB A2 => ⟨_, (.there (.there (.there (.there (.there .here))))), ⟨(Ic Mb1 (Ic Mb2 In0)), ?_⟩⟩)
           refine Aw.shift (Re0 (Sd ⟨(Ic Mb0 (Ic Mb1 In0)), ?_⟩))
           have gs := u.mono oB
           obtain ⟨Ke, e9, rE⟩ := RowR.at gs C
           obtain ⟨C1, rfl, Iq⟩ := rE
           obtain rfl : y = C1 := XW M e9
           refine Xk 11 (by kernel_rfl) (Jyq Z (XB (T := (Ty.sl Xf)) Mb3 gs e9 (Xm C).1 Z Z Z Z Z) ⟨(Ic Mb0 (Ic Mb1 In0)), ?_⟩)
           refine Ao 12 Z ?_
           refine Xr (T := (Ty.sl Xf)) (vs := [(sv bm)]) (r' := [(sv bm)]) (l' := (Xz A d E)) Z Z Z Z Z (.there (.there (.there .here))) gs e9 Z Z Z (RowR.set d gs ⟨bm, Z, A2⟩) (fun pX => ⟨(Ic Mb0 (Ic Mb1 In0)), ?_⟩)
           have n7 := XG e9 (v := [(sv bm)])
           exact Ad<|Pu4<|Pu4<|Pu4<|Pu4<|Pu4<|Sd<|⟨_, by exact R4, _, Nat.lt_succ_self _, U, ((W8.mk p0.list Q R).value), (Xz A d E), (S.set d.toNat [(sv bm)]), bm, Z, Z, (V ▸ H), pX, n7⟩
          ·obtain ⟨Kf, fa, rF⟩ := RowR.at u Y
           obtain ⟨C2, rfl, iW⟩ := rF
           obtain rfl : y = C2 := XW M fa
           refine id (Jyq Z (XB (T := (Ty.sl Xf)) Mb4 u fa (Xm Y).1 Z Z Z Z Z) ⟨(Ic Mb1 (Ic Mb2 In0)), ?_⟩)
           refine Xu 1 7 (by kernel_rfl) ?_ ?_
           ·refine id (Jyq Z (Xe (v := (sv c)) Z Z Z (Rb3 Z)) ⟨(Ic Mb1 (Ic Mb2 In0)), ?_⟩)
            refine Xk 7 (by kernel_rfl) (Jyq Z (Xe (v := (sv y)) Z Z Z (XI (T := (Ty.sl Xf)) Mb4 u fa Z Z)) ⟨(Ic Mb1 (Ic Mb2 In0)), ?_⟩)
            refine Ao 10 Z ?_
            refine Xj (T := Xf) (bytes := 88) (q := 0) Z Z Z iW Mb5 Z (SrcT.row Mb0 dd Z) W Z Z Z Z Z Z Z Z (fun bn Gf oC A3 => ⟨_, (.there (.there (.there (.there (.there .here))))), ⟨(Ic Mb1 (Ic Mb2 In0)), ?_⟩⟩)
            refine Aw.shift (Re0 (Sd ⟨(Ic Mb0 (Ic Mb1 In0)), ?_⟩))
            have gt := u.mono oC
            obtain ⟨Kg, fb, rG⟩ := RowR.at gt C
            obtain ⟨C3, rfl, Ir⟩ := rG
            obtain rfl : y = C3 := XW M fb
            refine Xk 11 (by kernel_rfl) (Jyq Z (XB (T := (Ty.sl Xf)) Mb3 gt fb (Xm C).1 Z Z Z Z Z) ⟨(Ic Mb0 (Ic Mb1 In0)), ?_⟩)
            refine Ao 12 Z ?_
            refine Xr (T := (Ty.sl Xf)) (vs := [(sv bn)]) (r' := [(sv bn)]) (l' := (Xz A d E)) Z Z Z Z Z (.there (.there (.there .here))) gt fb Z Z Z (RowR.set d gt ⟨bn, Z, A3⟩) (fun pY => ⟨(Ic Mb0 (Ic Mb1 In0)), ?_⟩)
            have n8 := XG fb (v := [(sv bn)])
            exact Ad<|Pu4<|Pu4<|Pu4<|Pu4<|Pu4<|Sd<|⟨_, by exact R4, _, Nat.lt_succ_self _, U, ((W8.mk p0.list Q R).value), (Xz A d E), (S.set d.toNat [(sv bn)]), bn, Z, Z, (V ▸ H), pY, n8⟩
           ·refine id (Jyq Z (Xe (v := (sv y)) Z Z Z (XI (T := (Ty.sl Xf)) Mb4 u fa Z Z)) ⟨(Ic Mb1 (Ic Mb2 In0)), ?_⟩)
            refine Xu 1 10 (by kernel_rfl) ?_ ?_
            ·refine id (Jyq Z (Xe (v := (sv c)) Z Z Z (Rb3 Z)) ⟨(Ic Mb1 (Ic Mb2 In0)), ?_⟩)
             refine Ao 10 Z ?_
             refine Xj (T := Xf) (bytes := 88) (q := 0) Z Z Z iW Mb5 Z (SrcT.row Mb0 dd Z) W Z Z Z Z Z Z Z Z (fun bo Gg oD A4 => ⟨_, (.there (.there (.there (.there (.there .here))))), ⟨(Ic Mb1 (Ic Mb2 In0)), ?_⟩⟩)
             refine Aw.shift (Re0 (Sd ⟨(Ic Mb0 (Ic Mb1 In0)), ?_⟩))
             have gu := u.mono oD
             obtain ⟨Kh, fc, rH⟩ := RowR.at gu C
             obtain ⟨C4, rfl, Is⟩ := rH
             obtain rfl : y = C4 := XW M fc
             refine Xk 11 (by kernel_rfl) (Jyq Z (XB (T := (Ty.sl Xf)) Mb3 gu fc (Xm C).1 Z Z Z Z Z) ⟨(Ic Mb0 (Ic Mb1 In0)), ?_⟩)
             refine Ao 12 Z ?_
             refine Xr (T := (Ty.sl Xf)) (vs := [(sv bo)]) (r' := [(sv bo)]) (l' := (Xz A d E)) Z Z Z Z Z (.there (.there (.there .here))) gu fc Z Z Z (RowR.set d gu ⟨bo, Z, A4⟩) (fun pZ => ⟨(Ic Mb0 (Ic Mb1 In0)), ?_⟩)
             have n9 := XG fc (v := [(sv bo)])
             exact Ad<|Pu4<|Pu4<|Pu4<|Pu4<|Pu4<|Sd<|⟨_, by exact R4, _, Nat.lt_succ_self _, U, ((W8.mk p0.list Q R).value), (Xz A d E), (S.set d.toNat [(sv bo)]), bo, Z, Z, (V ▸ H), pZ, n9⟩
            ·refine id (Jy Z ?_)
             refine Xj (T := Xf) (bytes := 88) (q := 0) Z Z Z iW Mb5 Z (SrcT.row Mb0 dd Z) W Z Z Z Z Z Z Z Z (fun bp Gh oE A5 => ⟨_, (.there (.there (.there (.there (.there .here))))), ⟨(Ic Mb1 (Ic Mb2 In0)), ?_⟩⟩)
             refine Aw.shift (Re0 (Sd ⟨(Ic Mb0 (Ic Mb1 In0)), ?_⟩))
             refine Xk 1 (by kernel_rfl) (Jyq Z (Xe (v := (sv c)) Z Z Z (Rb2 Z)) ⟨(Ic Mb0 (Ic Mb1 In0)), ?_⟩)
             have gv := u.mono oE
             obtain ⟨Ki, fd, rI⟩ := RowR.at gv C
             obtain ⟨C5, rfl, Iu⟩ := rI
             obtain rfl : y = C5 := XW M fd
             refine Xk 11 (by kernel_rfl) (Jyq Z (XB (T := (Ty.sl Xf)) Mb3 gv fd (Xm C).1 Z Z Z Z Z) ⟨(Ic Mb0 (Ic Mb1 In0)), ?_⟩)
             refine Ao 12 Z ?_
             refine Xr (T := (Ty.sl Xf)) (vs := [(sv bp)]) (r' := [(sv bp)]) (l' := (Xz A d E)) Z Z Z Z Z (.there (.there (.there .here))) gv fd Z Z Z (RowR.set d gv ⟨bp, Z, A5⟩) (fun p2 => ⟨(Ic Mb0 (Ic Mb1 In0)), ?_⟩)
             have oa := XG fd (v := [(sv bp)])
             exact Ad<|Pu4<|Pu4<|Pu4<|Pu4<|Pu4<|Sd<|⟨_, by exact R4, _, Nat.lt_succ_self _, U, ((W8.mk p0.list Q R).value), (Xz A d E), (S.set d.toNat [(sv bp)]), bp, Z, Z, (V ▸ H), p2, oa⟩
        ·refine id (Jy Z ?_)
         have aO : RowR Xf ak [(Xb (Op.mk 5 0 0 0 0 [] []) Xo Xo)] [(Op.mk 5 0 0 0 0 [] [])] := RowR.cons ⟨Xo, Xo, Z, (Slr.nil XC _), (Slr.nil Ty.i64 _)⟩ (RowR.nil)
         refine Xx (T := Xf) (rows := [(Xb (Op.mk 5 0 0 0 0 [] []) Xo Xo)]) (l := [(Op.mk 5 0 0 0 0 [] [])]) Z Z Z aO Z Z Z Z Z Z Z Z (fun Ns => ⟨(Ic Mb1 (Ic Mb2 In0)), ?_⟩)
         refine Xu 1 4 (by kernel_rfl) ?_ ?_
         ·refine id (Jyq Z (Xe (v := (sv c)) Z Z Z (Rb3 Z)) ⟨(Ic Mb1 (Ic Mb2 In0)), ?_⟩)
          refine Xk 4 (by kernel_rfl) (Jyq Z (Xe (v := (sv c)) Z Z Z (Rb3 Z)) ⟨(Ic Mb1 (Ic Mb2 In0)), ?_⟩)
          obtain ⟨Kj, iK, rJ⟩ := RowR.at u Y
          obtain ⟨C6, rfl, A6⟩ := rJ
          obtain rfl : y = C6 := XW M iK
          refine Xk 6 (by kernel_rfl) (Jyq Z (XB (T := (Ty.sl Xf)) Mb4 u iK (Xm Y).1 Z Z Z Z Z) ⟨(Ic Mb1 (Ic Mb2 In0)), ?_⟩)
          refine Xk 7 (by kernel_rfl) (Jyq Z (Xe (v := (sv y)) Z Z Z (XI (T := (Ty.sl Xf)) Mb4 u iK Z Z)) ⟨(Ic Mb1 (Ic Mb2 In0)), ?_⟩)
          refine Ao 10 Z ?_
          refine Xj (T := Xf) (bytes := 88) (q := 0) Z Z Z A6 Mb5 Z (SrcT.row Mb0 aO Z) W Z Z Z Z Z Z Z Z (fun bq Gi oF A7 => ⟨_, (.there (.there (.there (.there (.there .here))))), ⟨(Ic Mb1 (Ic Mb2 In0)), ?_⟩⟩)
          refine Aw.shift (Re0 (Sd ⟨(Ic Mb0 (Ic Mb1 In0)), ?_⟩))
          have gw := u.mono oF
          obtain ⟨Kk, fe, rK⟩ := RowR.at gw C
          obtain ⟨C7, rfl, Iv⟩ := rK
          obtain rfl : y = C7 := XW M fe
          refine Xk 11 (by kernel_rfl) (Jyq Z (XB (T := (Ty.sl Xf)) Mb3 gw fe (Xm C).1 Z Z Z Z Z) ⟨(Ic Mb0 (Ic Mb1 In0)), ?_⟩)
          refine Ao 12 Z ?_
          refine Xr (T := (Ty.sl Xf)) (vs := [(sv bq)]) (r' := [(sv bq)]) (l' := (Xz A d E)) Z Z Z Z Z (.there (.there (.there .here))) gw fe Z Z Z (RowR.set d gw ⟨bq, Z, A7⟩) (fun p3 => ⟨(Ic Mb0 (Ic Mb1 In0)), ?_⟩)
          have ob := XG fe (v := [(sv bq)])
          exact Ad<|Pu4<|Pu4<|Pu4<|Pu4<|Pu4<|Sd<|⟨_, by exact R4, _, Nat.lt_succ_self _, U, ((W8.mk p0.list Q R).value), (Xz A d E), (S.set d.toNat [(sv bq)]), bq, Z, Z, (V ▸ H), p3, ob⟩
         ·refine id (Jyq Z (Xe (v := (sv c)) Z Z Z (Rb3 Z)) ⟨(Ic Mb1 (Ic Mb2 In0)), ?_⟩)
          refine Xu 1 6 (by kernel_rfl) ?_ ?_
          ·refine id (Jyq Z (Xe (v := (sv c)) Z Z Z (Rb3 Z)) ⟨(Ic Mb1 (Ic Mb2 In0)), ?_⟩)
           obtain ⟨Kl, iL, rL⟩ := RowR.at u Y
           obtain ⟨C8, rfl, A8⟩ := rL
           obtain rfl : y = C8 := XW M iL
           refine Xk 6 (by kernel_rfl) (Jyq Z (XB (T := (Ty.sl Xf)) Mb4 u iL (Xm Y).1 Z Z Z Z Z) ⟨(Ic Mb1 (Ic Mb2 In0)), ?_⟩)
           refine Xk 7 (by kernel_rfl) (Jyq Z (Xe (v := (sv y)) Z Z Z (XI (T := (Ty.sl Xf)) Mb4 u iL Z Z)) ⟨(Ic Mb1 (Ic Mb2 In0)), ?_⟩)
           refine Ao 10 Z ?_
           refine Xj (T := Xf) (bytes := 88) (q := 0) Z Z Z A8 Mb5 Z (SrcT.row Mb0 aO Z) W Z Z Z Z Z Z Z Z (fun br Gj oG A9 => ⟨_, (.there (.there (.there (.there (.there .here))))), ⟨(Ic Mb1 (Ic Mb2 In0)), ?_⟩⟩)
           refine Aw.shift (Re0 (Sd ⟨(Ic Mb0 (Ic Mb1 In0)), ?_⟩))
           have gx := u.mono oG
           obtain ⟨Km, ff, rM⟩ := RowR.at gx C
           obtain ⟨C9, rfl, Iw⟩ := rM
           obtain rfl : y = C9 := XW M ff
           refine Xk 11 (by kernel_rfl) (Jyq Z (XB (T := (Ty.sl Xf)) Mb3 gx ff (Xm C).1 Z Z Z Z Z) ⟨(Ic Mb0 (Ic Mb1 In0)), ?_⟩)
           refine Ao 12 Z ?_
           refine Xr (T := (Ty.sl Xf)) (vs := [(sv br)]) (r' := [(sv br)]) (l' := (Xz A d E)) Z Z Z Z Z (.there (.there (.there .here))) gx ff Z Z Z (RowR.set d gx ⟨br, Z, A9⟩) (fun p4 => ⟨(Ic Mb0 (Ic Mb1 In0)), ?_⟩)
           have oc := XG ff (v := [(sv br)])
           exact Ad<|Pu4<|Pu4<|Pu4<|Pu4<|Pu4<|Sd<|⟨_, by exact R4, _, Nat.lt_succ_self _, U, ((W8.mk p0.list Q R).value), (Xz A d E), (S.set d.toNat [(sv br)]), br, Z, Z, (V ▸ H), p4, oc⟩
          ·obtain ⟨Kn, fg, rN⟩ := RowR.at u Y
           obtain ⟨Da, rfl, iX⟩ := rN
           obtain rfl : y = Da := XW M fg
           refine id (Jyq Z (XB (T := (Ty.sl Xf)) Mb4 u fg (Xm Y).1 Z Z Z Z Z) ⟨(Ic Mb1 (Ic Mb2 In0)), ?_⟩)
           refine Xu 1 7 (by kernel_rfl) ?_ ?_
           ·refine id (Jyq Z (Xe (v := (sv c)) Z Z Z (Rb3 Z)) ⟨(Ic Mb1 (Ic Mb2 In0)), ?_⟩)
            refine Xk 7 (by kernel_rfl) (Jyq Z (Xe (v := (sv y)) Z Z Z (XI (T := (Ty.sl Xf)) Mb4 u fg Z Z)) ⟨(Ic Mb1 (Ic Mb2 In0)), ?_⟩)
            refine Ao 10 Z ?_
            refine Xj (T := Xf) (bytes := 88) (q := 0) Z Z Z iX Mb5 Z (SrcT.row Mb0 aO Z) W Z Z Z Z Z Z Z Z (fun bs Gk oH Ba => ⟨_, (.there (.there (.there (.there (.there .here))))), ⟨(Ic Mb1 (Ic Mb2 In0)), ?_⟩⟩)
            refine Aw.shift (Re0 (Sd ⟨(Ic Mb0 (Ic Mb1 In0)), ?_⟩))
            have gy := u.mono oH
            obtain ⟨Ko, fh, rO⟩ := RowR.at gy C
            obtain ⟨Db, rfl, Ix⟩ := rO
            obtain rfl : y = Db := XW M fh
            refine Xk 11 (by kernel_rfl) (Jyq Z (XB (T := (Ty.sl Xf)) Mb3 gy fh (Xm C).1 Z Z Z Z Z) ⟨(Ic Mb0 (Ic Mb1 In0)), ?_⟩)
            refine Ao 12 Z ?_
            refine Xr (T := (Ty.sl Xf)) (vs := [(sv bs)]) (r' := [(sv bs)]) (l' := (Xz A d E)) Z Z Z Z Z (.there (.there (.there .here))) gy fh Z Z Z (RowR.set d gy ⟨bs, Z, Ba⟩) (fun p5 => ⟨(Ic Mb0 (Ic Mb1 In0)), ?_⟩)
            have od := XG fh (v := [(sv bs)])
            exact Ad<|Pu4<|Pu4<|Pu4<|Pu4<|Pu4<|Sd<|⟨_, by exact R4, _, Nat.lt_succ_self _, U, ((W8.mk p0.list Q R).value), (Xz A d E), (S.set d.toNat [(sv bs)]), bs, Z, Z, (V ▸ H), p5, od⟩
           ·refine id (Jyq Z (Xe (v := (sv y)) Z Z Z (XI (T := (Ty.sl Xf)) Mb4 u fg Z Z)) ⟨(Ic Mb1 (Ic Mb2 In0)), ?_⟩)
            refine Xu 1 10 (by kernel_rfl) ?_ ?_
            ·refine id (Jyq Z (Xe (v := (sv c)) Z Z Z (Rb3 Z)) ⟨(Ic Mb1 (Ic Mb2 In0)), ?_⟩)
             refine Ao 10 Z ?_
             refine Xj (T := Xf) (bytes := 88) (q := 0) Z Z Z iX Mb5 Z (SrcT.row Mb0 aO Z) W Z Z Z Z Z Z Z Z (fun bt Gl oI Bb => ⟨_, (.there (.there (.there (.there (.there .here))))), ⟨(Ic Mb1 (Ic Mb2 In0)), ?_⟩⟩)
             refine Aw.shift (Re0 (Sd ⟨(Ic Mb0 (Ic Mb1 In0)), ?_⟩))
             have gz := u.mono oI
             obtain ⟨Kq, fi, rP⟩ := RowR.at gz C
             obtain ⟨Dc, rfl, Iy⟩ := rP
             obtain rfl : y = Dc := XW M fi
             refine Xk 11 (by kernel_rfl) (Jyq Z (XB (T := (Ty.sl Xf)) Mb3 gz fi (Xm C).1 Z Z Z Z Z) ⟨(Ic Mb0 (Ic Mb1 In0)), ?_⟩)
             refine Ao 12 Z ?_
             refine Xr (T := (Ty.sl Xf)) (vs := [(sv bt)]) (r' := [(sv bt)]) (l' := (Xz A d E)) Z Z Z Z Z (.there (.there (.there .here))) gz fi Z Z Z (RowR.set d gz ⟨bt, Z, Bb⟩) (fun p6 => ⟨(Ic Mb0 (Ic Mb1 In0)), ?_⟩)
             have oe := XG fi (v := [(sv bt)])
             exact Ad<|Pu4<|Pu4<|Pu4<|Pu4<|Pu4<|Sd<|⟨_, by exact R4, _, Nat.lt_succ_self _, U, ((W8.mk p0.list Q R).value), (Xz A d E), (S.set d.toNat [(sv bt)]), bt, Z, Z, (V ▸ H), p6, oe⟩
            ·refine id (Jy Z ?_)
             refine Xj (T := Xf) (bytes := 88) (q := 0) Z Z Z iX Mb5 Z (SrcT.row Mb0 aO Z) W Z Z Z Z Z Z Z Z (fun bu Gm oJ Bc => ⟨_, (.there (.there (.there (.there (.there .here))))), ⟨(Ic Mb1 (Ic Mb2 In0)), ?_⟩⟩)
             refine Aw.shift (Re0 (Sd ⟨(Ic Mb0 (Ic Mb1 In0)), ?_⟩))
             refine Xk 1 (by kernel_rfl) (Jyq Z (Xe (v := (sv c)) Z Z Z (Rb2 Z)) ⟨(Ic Mb0 (Ic Mb1 In0)), ?_⟩)
             have gA := u.mono oJ
             obtain ⟨Kr, fj, rQ⟩ := RowR.at gA C
             obtain ⟨Dd, rfl, Iz⟩ := rQ
             obtain rfl : y = Dd := XW M fj
             refine Xk 11 (by kernel_rfl) (Jyq Z (XB (T := (Ty.sl Xf)) Mb3 gA fj (Xm C).1 Z Z Z Z Z) ⟨(Ic Mb0 (Ic Mb1 In0)), ?_⟩)
             refine Ao 12 Z ?_
             refine Xr (T := (Ty.sl Xf)) (vs := [(sv bu)]) (r' := [(sv bu)]) (l' := (Xz A d E)) Z Z Z Z Z (.there (.there (.there .here))) gA fj Z Z Z (RowR.set d gA ⟨bu, Z, Bc⟩) (fun p7 => ⟨(Ic Mb0 (Ic Mb1 In0)), ?_⟩)
             have of := XG fj (v := [(sv bu)])
             exact Ad<|Pu4<|Pu4<|Pu4<|Pu4<|Pu4<|Sd<|⟨_, by exact R4, _, Nat.lt_succ_self _, U, ((W8.mk p0.list Q R).value), (Xz A d E), (S.set d.toNat [(sv bu)]), bu, Z, Z, (V ▸ H), p7, of⟩
       ·intro bE
        obtain ⟨bE, H⟩ := If bE H
        refine XS<|Pu3<|Pu3<|Pu3<|Pu3<|Re4<|?_
        have Bd := (I.mono hv).mono hw
        have Be := (z.mono hv).mono hw
        exact Sd ⟨_, by exact R2, U, ((W8.mk p0.list Q R).value), e, p1.cnfg.starts, p1.cnfg.threads, c, A, S, w, p1.picks, Z, Z, H, Bd, u, Be⟩
      ·intro bD
       obtain ⟨bD, H⟩ := If bD H
       refine Xd<|W9<|Ec Z<|Ea Z<|Xa<|?_
       refine Xp Z ?_ ?_
       ·intro bF
        obtain ⟨bF, H⟩ := It bF H
        refine W9<|EF 0 Z<|EF 1 Z<|El (sv e) Z (Rb3 Z)<|?_
        refine Ow.shift (Shift.nilTok1 53 1 (Sd ?_))
        obtain ⟨NE, Bv, H⟩ := bnd H
        refine Xh Z (Xj (T := Ty.u64) (bytes := 8) (q := 0) Z Z Z (Slr.nil Ty.u64 _) Mb0 Z (SrcT.sl I) Bv Z Z Z Z Z Z Z Z (fun Nt nM kc Bf => ⟨_, .here, ?_⟩))
        have k4 : RowR Ty.u64 nM [[(.int .u64 0)]] [0] := RowR.cons Z (RowR.nil)
        refine Xh Z (Xx (T := Ty.u64) (rows := [[(.int .u64 0)]]) (l := [0]) Z Z Z k4 Z Z Z Z Z Z Z Z (fun Nu => ?_))
        obtain ⟨mZ, Bw, H⟩ := bnd H
        refine Xh Z (Xj (T := Ty.u64) (bytes := 8) (q := 0) Z Z Z Bf Mb1 Z (SrcT.row Mb0 k4 Z) Bw Z Z Z Z Z Z Z Z (fun ka Gn kd Bg => ⟨_, (.there .here), ?_⟩))
        refine Ow.shift (Re0 (Sd ?_))
        refine EF 0 Z<|EF 1 Z<|?_
        refine Xh Z (So [(sv ka)] (Xc (Script.mk (Config.mk p1.cnfg.capacities mZ p1.cnfg.threads) f p1.picks) t ka c w) Z (.there (.there (.there (.there .here)))) Z ?_)
        refine Xa<|Pu2<|Pu4<|Pu4<|Pu4<|Re4<|?_
        have Bh := (g.mono kc).mono kd
        have Bi := (z.mono kc).mono kd
        exact Sd ⟨_, by exact R2, D, p0.value, ka, mZ, p1.cnfg.threads, c, f, x, w, p1.picks, Z, Z, H, Bg, Bh, Bi⟩
       ·intro bF
        obtain ⟨bF, H⟩ := If bF H
        exact Xt<|Pu1<|Pu3<|Pu3<|Pu3<|Sd<|⟨_, by exact R2, D, p0.value, e, p1.cnfg.starts, p1.cnfg.threads, c, f, x, w, p1.picks, Z, Z, H, I, g, z⟩
 rintro _ Go _ oK ⟨iY, iZ, aF, aC, aJ, aG, aD, gB, aH, aE, rfl, rfl, H, rR, oM, rS⟩
 unfold aah at H
 refine Xd<|W9<|EL 5 (Xc (Script.mk (Config.mk p1.cnfg.capacities aC aJ) aD aE) t aF aG aH) Z (Rb2 Z)<|?_
 refine Xh Z (Sa (Xc (Script.mk (Config.mk p1.cnfg.capacities aC aJ) aD aE) t aF aG aH) Z (.there .here) Z ?_)
 refine Xa<|Xy<|?_
 obtain ⟨Gp, Gq, Gr⟩ := YZ H
 subst y0 bv bw
 refine ⟨(.inl Z), [(.agg (Xc (Script.mk (Config.mk p1.cnfg.capacities aC aJ) aD aE) t aF aG aH).toArray)], ⟨(.agg (Xc (Script.mk (Config.mk p1.cnfg.capacities aC aJ) aD aE) t aF aG aH).toArray), _, Z, ⟨_, 5, (Xc (Script.mk (Config.mk p1.cnfg.capacities aC aJ) aD aE) t aF aG aH), Z, Z, Z, Z, ⟨Z, Rb1 Z⟩, Z⟩, Z⟩, ?_⟩
 refine Pu3<|Pu1<|Re2<|Re2<|?_
 have Bj := L.mono oK
 exact Sd ⟨t, aF, aG, gB, aH, Z, Z, Bj, rR, oM, rS⟩



end Go.Hx
