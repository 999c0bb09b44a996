
import Derived.Test.YtphoeijgpmlbpaaGreatDoorXZM
import Derived.Test.YtphoeijgpmlbpaaGreatDoorXZWDraw
set_option linter.unusedVariables false
set_option linter.unusedSimpArgs false
namespace Go.Hx
open Go Go.Proofs
set_option maxRecDepth 10000
set_option maxHeartbeats 1000000
theorem Cm (p0 : ad1) (bB : SV) (p1 : Int) (I : fM) (Q : ae3) (R : ad4) (H : qG p0 p1 = some (I, Q, R)) (K : Kp) (G : List Ent) (cX : Slr Ty.u8 K (sv bB) p0) :
  Fc Tryz.prog 8 #[(sv bB), (Vi p1)] K (G) (fun v a n => ∃ (bC : SV) (bD : SV) (cr : SV) (co : List (List Value)) (bE : SV), v = (.tuple #[(.agg (fp I bC bD).toArray), (sv cr), (sv bE)]) ∧ (.tok 3 1 [(sv bC)]) :: (.tok 36 1 [(sv bD)]) :: (.row (sv cr) 52 1 co.flatten) :: (.tok 40 8 [(sv bE)]) :: G = n ∧ Slr Ty.i64 a (sv bC) I.capacities ∧ Slr Ty.u64 a (sv bD) I.starts ∧ RowR (Ty.sl gC) a co Q ∧ Slr f4 a (sv bE) R) := by
 refine fN Tryz.func8 rfl Tryz.ntmps8 Tryz.results8 rfl ?_
 unfold qG at H
 refine fc<|fa<|?_
 refine ff rfl (fC (cs := (fp (fM.mk [] [] 0) fB fB)) rfl rfl rfl rfl (fun p => ?_))
 refine Ea Z<|Ea Z<|fb<|fc<|fa<|Em Z<|?_
 obtain ⟨g, dQ, H⟩ := bnd H
 refine ff rfl (Ek Tryz.call18 Z (CV p0 bB 160 g dQ _ _ cX) ?_)
 rintro _ _ _ - ⟨j, O, rfl, rfl, rfl, bX⟩
 refine Ea Z<|fb<|fc<|fa<|Em Z<|?_
 obtain ⟨b, cw, cx, dR, H⟩ := k7 H
 refine ff rfl (Ek Tryz.call19 Z (EQ j g O b cw cx dR _ _ bX) ?_)
 rintro _ ek _ cB ⟨e, f, rfl, rfl, bY, bZ⟩
 refine ff rfl (fC (cs := (fp (fM.mk [] [] 0) fB fB)) rfl rfl rfl rfl (fun s => ?_))
 refine ff rfl (Sa (fp b e f) Z .here Z ?_)
 refine fb<|fc<|fa<|Em Z<|EL 3 (fp b e f) Z (Rb0 Z)<|Em Z<|?_
 obtain ⟨ac, bf, bg, dS, H⟩ := k7 H
 refine Ow.shift (Pu1 (Sd ?_))
 have bu := bX.mono cB
 refine ff rfl (Ek Tryz.call20 Z (EN j (fg.mk g.list cw cx) O b e f p1 ac bf bg dS _ _ bu bY bZ) ?_)
 rintro _ el _ aM ⟨h, aa, rfl, rfl, bv⟩
 refine Ea Z<|fb<|fc<|fa<|EL 3 (fp b e f) Z (Rb2 Z)<|?_
 obtain ⟨al, dT, H⟩ := bnd H
 have b0 := bY.mono aM
 have b1 := bZ.mono aM
 refine ff rfl (Ek Tryz.call21 Z (CW b e f al dT _ _ b0 b1) ?_)
 rintro _ cA _ af ⟨bd, bA, rfl, rfl, dJ, dK⟩
 refine ff rfl (fC (cs := (fj (f6.mk [] [] 0) fB fB)) rfl rfl rfl rfl (fun A => ?_))
 refine ff rfl (Sa (fj al bd bA) Z .here Z ?_)
 refine fb ?_
 refine fz (fun u a n => ∃ (y : SV) (a0 : ad1) (a6 : List (List Value)) (z : SV) (a1 : ad1) (a7 : List (List Value)), [(4, (Vp p)), (7, (Vp j)), (8, (Vp s)), (9, (sv h)), (10, (Vp A)), (11, (sv y)), (12, (sv z))] = u ∧ cA = a ∧ (.blk A 60 (fj al bd bA)) :: (.blk s 27 (fp b e f)) :: (.blk j 99 (fE (fg.mk g.list bf bg) O)) :: (.blk p 27 (fp (fM.mk [] [] 0) fB fB)) :: (.row (sv y) 3 1 a6.flatten) :: (.row (sv z) 3 1 a7.flatten) :: (.tok 104 3 [(sv bd)]) :: (.row (sv h) 52 1 aa.flatten) :: (.tok 3 1 [(sv e)]) :: (.tok 36 1 [(sv f)]) :: G = n ∧ vR ac al b g bf bg a0 a1 = some (I, Q, R) ∧ RowR Ty.i64 a a6 a0 ∧ RowR Ty.i64 a a7 a1) ?_ ?_
 ·obtain ⟨cy, ck, H⟩ := bnd H
  obtain ⟨cz, cl, H⟩ := bnd H
  refine fq _ rfl (Ic Mb0 (Ic Mb1 (Ic Mb2 (Ic Mb3 (Ic Mb4 (Ic Mb5 (Ic Mb6 (Ic Mb7 In0))))))))<|JF 0 2 Z<|Jl 1 (Vi b.threads) Z (Rb4 Z)<|JF 3 2 Z<|Jl 4 (Vi b.threads) Z (Rb4 Z)<|?_
  refine gY 2 5 (by kernel_rfl) ?_ ?_
  ·refine id (Jy Z ?_)
   refine jx (T := Ty.i64) (r := [(Vi 0)]) rfl rfl rfl ck rfl rfl rfl rfl rfl rfl rfl rfl rfl rfl (fun d4 dV cO ey => ⟨(Ic Mb1 (Ic Mb2 (Ic Mb3 (Ic Mb4 (Ic Mb5 (Ic Mb6 (Ic Mb7 (Ic Mb8 In0)))))))), ?_⟩)
   refine Ja 6 Z ?_
   refine Ao 5 Z ?_
   refine jx (T := Ty.i64) (r := [(Vi 0)]) rfl rfl rfl cl rfl rfl rfl rfl rfl rfl rfl rfl rfl rfl (fun d5 dW cP ez => ⟨(Ic Mb2 (Ic Mb3 (Ic Mb4 (Ic Mb5 (Ic Mb6 (Ic Mb7 (Ic Mb8 (Ic Mb9 In0)))))))), ?_⟩)
   exact Ja 7 Z<|Ad<|Pu8<|Pu8<|Pu7<|Pu6<|Pu4<|Pu5<|Pu9<|Pu8<|Pu9<|Pu9<|Sd<|⟨_, by exact R7, d4, cy, dV, d5, cz, dW, rfl, rfl, rfl, H, cO, cP⟩
  ·refine id (Jy Z ?_)
   refine jx (T := Ty.i64) (r := [(Vi 0)]) rfl rfl rfl cl rfl rfl rfl rfl rfl rfl rfl rfl rfl rfl (fun d6 dX cQ eA => ⟨(Ic Mb1 (Ic Mb2 (Ic Mb3 (Ic Mb4 (Ic Mb5 (Ic Mb6 (Ic Mb7 (Ic Mb8 In0)))))))), ?_⟩)
   refine Ao 2 Z ?_
   refine jx (T := Ty.i64) (r := [(Vi 0)]) rfl rfl rfl ck rfl rfl rfl rfl rfl rfl rfl rfl rfl rfl (fun d7 dY cR eB => ⟨(Ic Mb2 (Ic Mb3 (Ic Mb4 (Ic Mb5 (Ic Mb6 (Ic Mb7 (Ic Mb8 (Ic Mb9 In0)))))))), ?_⟩)
   exact Ja 6 Z<|Ja 7 Z<|Ad<|Pu8<|Pu8<|Pu7<|Pu6<|Pu5<|Pu5<|Pu9<|Pu8<|Pu9<|Pu9<|Sd<|⟨_, by exact R7, d7, cy, dY, d6, cz, dX, rfl, rfl, rfl, H, cR, cQ⟩
 rintro _ _ _ - ⟨y, a0, a6, z, a1, a7, rfl, rfl, rfl, H, cM, cN⟩
 unfold vR at H
 refine fc<|fa<|EF 2 Z<|El (Vi b.threads) Z (Rb1 Z)<|?_
 obtain ⟨ef, dU, H⟩ := bnd H
 refine ff rfl (jx (T := fO) (r := (fe (Result.mk 0 0 0 false 0))) rfl rfl rfl dU rfl rfl rfl rfl rfl rfl rfl rfl rfl rfl (fun M dZ cS eC => ?_))
 refine Ea Z<|fb<|fc<|fa<|Ea Z<|fb<|?_
 refine fz (fun u a n => ∃ (ak : SV) (bw : ad4), [(4, (Vp p)), (8, (Vp s)), (9, (sv h)), (14, (sv ak))] = u ∧ (.blk s 27 (fp b e f)) :: (.blk p 27 (fp (fM.mk [] [] 0) fB fB)) :: (.tok 40 8 [(sv ak)]) :: (.row (sv h) 52 1 aa.flatten) :: (.tok 3 1 [(sv e)]) :: (.tok 36 1 [(sv f)]) :: G = n ∧ vO ac b bw = some (I, Q, R) ∧ Slr f4 a (sv ak) bw) ?_ ?_
 ·refine fc<|fa<|Ea Z<|fb<|fA<|?_
  refine f7 (fun cm u a n => ∃ (L : ad1) (N : List (List Value)) (D : ad1) (V : List (List Value)) (S : ad6) (W : List (List Value)) (x : SV) (U : ad4) (w : Int) (X : SV) (E : ad0) (Y : SV) (F : af1) (J : Int) (ai : Int) (aj : Int), [(4, (Vp p)), (7, (Vp j)), (8, (Vp s)), (9, (sv h)), (10, (Vp A)), (11, (sv y)), (12, (sv z)), (13, (sv M)), (14, (sv x)), (15, (Vi w))] = u ∧ (.blk A 60 (fj (f6.mk E F J) X Y)) :: (.blk s 27 (fp b e f)) :: (.blk j 99 (fE (fg.mk g.list ai aj) O)) :: (.blk p 27 (fp (fM.mk [] [] 0) fB fB)) :: (.row (sv y) 3 1 N.flatten) :: (.row (sv z) 3 1 V.flatten) :: (.row (sv M) 38 5 W.flatten) :: (.tok 40 8 [(sv x)]) :: (.row (sv h) 52 1 aa.flatten) :: (.tok 3 1 [(sv e)]) :: (.tok 36 1 [(sv f)]) :: G = n ∧ Bv (vQ ac b g) cm L D S U w E F J ai aj = some (I, Q, R) ∧ RowR Ty.i64 a N L ∧ RowR Ty.i64 a V D ∧ RowR fO a W S ∧ Slr f4 a (sv x) U ∧ Slr fF a (sv X) E ∧ Slr fQ a (sv Y) F) BIG ?_ ?_
  ·exact Shift.nilTok1 40 8<|jc<|jc<|jc<|Pu3<|Pu4<|gG<|gG<|gG<|gG<|gG<|gG<|Re11<|Sd<|⟨_, by exact R10, a0, a6, a1, a7, ef, dZ, fB, ([] : ad4), 0, bd, al.chans, bA, al.waiting, al.tick, bf, bg, rfl, rfl, H, cM, cN, cS, (Slr.nil f4 _), dJ, dK⟩
  rintro cm _ aK _ aL ⟨L, N, D, V, S, W, x, U, w, X, E, Y, F, J, ai, aj, rfl, rfl, H, t, o, ag, aC, aN, aO⟩
  obtain ⟨eE, aE, rfl, cV, H⟩ := lps10 H
  unfold vQ at H
  refine fc ?_
  refine fz (fun u a n => ∃ (bx : Bool) (B : Int) (C : Int), [(4, (Vp p)), (7, (Vp j)), (8, (Vp s)), (9, (sv h)), (10, (Vp A)), (11, (sv y)), (12, (sv z)), (13, (sv M)), (14, (sv x)), (15, (Vi w)), (45, (.bool bx))] = u ∧ aK = a ∧ (.blk A 60 (fj (f6.mk E F J) X Y)) :: (.blk s 27 (fp b e f)) :: (.blk j 99 (fE (fg.mk g.list B C) O)) :: (.blk p 27 (fp (fM.mk [] [] 0) fB fB)) :: (.row (sv y) 3 1 N.flatten) :: (.row (sv z) 3 1 V.flatten) :: (.row (sv M) 38 5 W.flatten) :: (.tok 40 8 [(sv x)]) :: (.row (sv h) 52 1 aa.flatten) :: (.tok 3 1 [(sv e)]) :: (.tok 36 1 [(sv f)]) :: G = n ∧ oL ac L D S U w E F J b g aE bx B C = some (I, Q, R)) ?_ ?_
  ·refine fa<|Em Z<|Ec Z<|Em Z<|?_
   refine Ee Z ?_ ?_
   ·intro ar
    obtain ⟨ar, H⟩ := It ar H
    refine Vm Z ?_
    obtain ⟨ct, dL, H⟩ := bnd H
    refine Ow.shift (Pu2 (Sd ?_))
    have di := ((bu.mono aM).mono af).mono aL
    refine ib rfl rfl rfl rfl (Ek Tryz.call22 Z (tl j (fg.mk g.list ai aj) O ct dL _ _ di) ?_)
    rintro _ _ _ - ⟨rfl, rfl, rfl⟩
    exact Et Z<|fb<|gG<|gG<|gG<|gG<|gG<|gG<|gG<|gG<|Pu8<|gG<|gG<|Sd<|⟨_, by exact R11, ct, ((fg.mk g.list ai aj).at_), ((fg.mk g.list ai aj).value), rfl, rfl, rfl, H⟩
   ·intro ar
    obtain ⟨ar, H⟩ := If ar H
    exact Ez Z<|Ez Z<|Ef Z<|fb<|gG<|gG<|gG<|gG<|gG<|gG<|gG<|gG<|gG<|gG<|gG<|Sd<|⟨_, by exact R11, false, ai, aj, rfl, rfl, rfl, H⟩
  rintro _ _ _ - ⟨bx, B, C, rfl, rfl, rfl, H⟩
  unfold oL at H
  refine fm rfl ?_ ?_
  ·intro bh
   have H := ift bh H
   refine ft ?_
   refine fz (fun u a n => ∃ (aV : ad1) (a2 : List (List Value)) (aW : ad1) (a3 : List (List Value)) (aX : ad6) (a4 : List (List Value)) (aJ : SV) (aY : ad4) (a8 : SV) (aF : ad0) (a9 : SV) (aG : af1) (aT : Int) (aU : Int), [(4, (Vp p)), (7, (Vp j)), (8, (Vp s)), (9, (sv h)), (10, (Vp A)), (11, (sv y)), (12, (sv z)), (13, (sv M)), (14, (sv aJ)), (15, (Vi w))] = u ∧ (.blk A 60 (fj (f6.mk aF aG aT) a8 a9)) :: (.blk s 27 (fp b e f)) :: (.blk j 99 (fE (fg.mk g.list aU ((fg.mk g.list B C).value)) O)) :: (.blk p 27 (fp (fM.mk [] [] 0) fB fB)) :: (.row (sv y) 3 1 a2.flatten) :: (.row (sv z) 3 1 a3.flatten) :: (.row (sv M) 38 5 a4.flatten) :: (.tok 40 8 [(sv aJ)]) :: (.row (sv h) 52 1 aa.flatten) :: (.tok 3 1 [(sv e)]) :: (.tok 36 1 [(sv f)]) :: G = n ∧ pI ac w b g B C aE aV aW aX aY aF aG aT aU = some (I, Q, R) ∧ RowR Ty.i64 a a2 aV ∧ RowR Ty.i64 a a3 aW ∧ RowR fO a a4 aX ∧ Slr f4 a (sv aJ) aY ∧ Slr fF a (sv a8) aF ∧ Slr fQ a (sv a9) aG) ?_ ?_
   ·refine fA<|fc<|fa<|Em Z<|EF 2 Z<|El (Vi b.threads) Z (Rb1 Z)<|?_
    obtain ⟨c, P, dM, H⟩ := ir H
    refine Ow.shift (Pu2 (Sd ?_))
    have dm := ((bu.mono aM).mono af).mono aL
    refine ff rfl (Ek Tryz.call23 Z (ja j (fg.mk g.list B C) O b.threads c P dM _ _ dm) ?_)
    rintro _ _ _ - ⟨rfl, rfl, rfl⟩
    refine Ea Z<|fb<|fA<|?_
    refine fz (fun u a n => ∃ (bz : Bool), [(4, (Vp p)), (7, (Vp j)), (8, (Vp s)), (9, (sv h)), (10, (Vp A)), (11, (sv y)), (12, (sv z)), (13, (sv M)), (14, (sv x)), (15, (Vi w)), (16, (Vi c)), (52, (.bool bz))] = u ∧ aK = a ∧ (.blk A 60 (fj (f6.mk E F J) X Y)) :: (.blk s 27 (fp b e f)) :: (.blk j 99 (fE (fg.mk g.list P ((fg.mk g.list B C).value)) O)) :: (.blk p 27 (fp (fM.mk [] [] 0) fB fB)) :: (.row (sv y) 3 1 N.flatten) :: (.row (sv z) 3 1 V.flatten) :: (.row (sv M) 38 5 W.flatten) :: (.tok 40 8 [(sv x)]) :: (.row (sv h) 52 1 aa.flatten) :: (.tok 3 1 [(sv e)]) :: (.tok 36 1 [(sv f)]) :: G = n ∧ pJ ac L D S U w c E F J b g P B C aE bz = some (I, Q, R)) ?_ ?_
    ·obtain ⟨bF, aS, H⟩ := bnd H
     rcases gR (dcd (bF = 0)) with bJ | bJ <;> revert bJ
     ·intro ae
      obtain ⟨ae, H⟩ := It ae H
      obtain ⟨cu, b2, H⟩ := bnd H
      obtain ⟨d8, b3, H⟩ := bnd H
      refine fq _ rfl (Ic Mb0 (Ic Mb1 (Ic Mb2 (Ic Mb3 (Ic Mb4 (Ic Mb5 (Ic Mb6 (Ic Mb7 (Ic Mb8 (Ic Mb9 (Ic ul In0)))))))))))<|Jm 0 Z<|Jm 1 Z<|?_
      obtain ⟨eG, bK, cY⟩ := RowR.at o aS
      obtain rfl := cY
      refine Jq 2 Z (gz (T := Ty.i64) Mb5 o bK (fL aS).1 rfl rfl rfl rfl rfl)<|Jl 3 (Vi bF) Z (gQ (T := Ty.i64) Mb5 o bK rfl rfl)<|Jc 4 Z<|Jm 5 Z<|Aw.known (d := 58) rfl (hZ ae)<|Bm 6 Z<|Bm 7 Z<|?_
      obtain ⟨eH, bL, cZ⟩ := RowR.at t b2
      obtain rfl := cZ
      refine Bq 8 Z (gz (T := Ty.i64) Mb4 t bL (fL b2).1 rfl rfl rfl rfl rfl)<|Bl 9 (Vi cu) Z (gQ (T := Ty.i64) Mb4 t bL rfl rfl)<|Bm 10 Z<|Bm 11 Z<|?_
      have br := (bv.mono af).mono aL
      obtain ⟨eI, bM, c0⟩ := RowR.at br b3
      obtain ⟨d0, rfl, dn⟩ := c0
      exact Bq 12 Z (gz (T := (Ty.sl gC)) Mb8 br bM (fL b3).1 rfl rfl rfl rfl rfl)<|Bl 13 (sv d0) Z (gQ (T := (Ty.sl gC)) Mb8 br bM rfl rfl)<|Bq 14 Z (gg (T := gC) dn rfl rfl)<|Bc 15 Z<|Jt 16 Z<|Ja 17 Z<|Ad<|gG<|gG<|gG<|gG<|gG<|gG<|gG<|gG<|Pu8<|gG<|gG<|Sd<|⟨_, by exact R12, (dcd (cu < (d8.length : Int))), rfl, rfl, rfl, H⟩
     ·intro ae
      obtain ⟨ae, H⟩ := If ae H
      refine fq _ rfl (Ic Mb0 (Ic Mb1 (Ic Mb2 (Ic Mb3 (Ic Mb4 (Ic Mb5 (Ic Mb6 (Ic Mb7 (Ic Mb8 (Ic Mb9 (Ic ul In0)))))))))))<|Jm 0 Z<|Jm 1 Z<|?_
      obtain ⟨eJ, bN, c1⟩ := RowR.at o aS
      obtain rfl := c1
      refine Jq 2 Z (gz (T := Ty.i64) Mb5 o bN (fL aS).1 rfl rfl rfl rfl rfl)<|Jl 3 (Vi bF) Z (gQ (T := Ty.i64) Mb5 o bN rfl rfl)<|Jc 4 Z<|Jm 5 Z<|Aw.known (d := 58) rfl (iq ae)<|Jz 6 Z<|Jz 7 Z<|Jz 8 Z<|Jz 9 Z<|Jz 10 Z<|Jz 11 Z<|Jz 12 Z<|Jz 13 Z<|Jz 14 Z<|Jz 15 Z<|Jf 16 Z<|Ja 17 Z<|Ad<|gG<|gG<|gG<|gG<|?_
      exact gG<|gG<|gG<|gG<|Pu8<|gG<|gG<|Sd<|⟨_, by exact R12, false, rfl, rfl, rfl, H⟩
    rintro _ _ _ - ⟨bz, rfl, rfl, rfl, H⟩
    unfold pJ at H
    refine fm rfl ?_ ?_
    ·intro bi
     have H := ift bi H
     refine fc<|fa<|Em Z<|Em Z<|Em Z<|Em Z<|?_
     obtain ⟨ao, b4, H⟩ := bnd H
     obtain ⟨eK, bO, c2⟩ := RowR.at t b4
     obtain rfl := c2
     refine Eq Z (gz (T := Ty.i64) Mb4 t bO (fL b4).1 rfl rfl rfl rfl rfl)<|El (Vi ao) Z (gQ (T := Ty.i64) Mb4 t bO rfl rfl)<|Eq Z (fH (cs := (fZ (Event.mk c ao false (Result.mk 0 0 0 false 0)))) rfl rfl rfl rfl rfl rfl)<|?_
     have bH : RowR f4 aK [(fZ (Event.mk c ao false (Result.mk 0 0 0 false 0)))] [(Event.mk c ao false (Result.mk 0 0 0 false 0))] := RowR.cons rfl (RowR.nil)
     refine ff rfl (gk (T := f4) (rows := [(fZ (Event.mk c ao false (Result.mk 0 0 0 false 0)))]) (l := [(Event.mk c ao false (Result.mk 0 0 0 false 0))]) rfl rfl rfl bH rfl rfl rfl rfl rfl rfl rfl rfl (fun eZ => ?_))
     obtain ⟨d9, dN, H⟩ := bnd H
     refine ff rfl (ga (T := f4) (bytes := 64) (q := 0) rfl rfl rfl aC Mb8 rfl (SrcT.row Mb0 bH rfl) dN rfl rfl rfl rfl rfl rfl rfl rfl (fun d1 eg ax dp => ⟨_, (.there (.there (.there (.there (.there (.there (.there (.there .here)))))))), ?_⟩))
     refine Ow.shift (Re0 (Sd ?_))
     refine Ea Z<|fb<|fa<|Em Z<|Em Z<|?_
     obtain ⟨e1, b5, H⟩ := bnd H
     have aP := o.mono ax
     obtain ⟨eL, bl, c3⟩ := RowR.at aP b5
     obtain rfl := c3
     refine Eq Z (gz (T := Ty.i64) Mb5 aP bl (fL b5).1 rfl rfl rfl rfl rfl) ?_
     refine ff rfl (gP (T := Ty.i64) (vs := [(Vi 1)]) (r' := [(Vi 1)]) (l' := (f8 D c 1)) rfl rfl rfl rfl rfl (.there (.there (.there (.there (.there .here))))) aP bl rfl rfl rfl (RowR.set c aP rfl) (fun cF => ?_))
     have er := iO bl (v := [(Vi 1)])
     refine fb<|gG<|gG<|gG<|gG<|gG<|gG<|gG<|gG<|gG<|gG<|gG<|?_
     have dq := t.mono ax
     have dr := ag.mono ax
     have ds := aN.mono ax
     have dt := aO.mono ax
     exact Sd ⟨_, by exact R10, L, N, (f8 D c 1), (V.set c.toNat [(Vi 1)]), S, W, d1, d9, X, E, Y, F, J, P, rfl, rfl, H, dq, cF, dr, dp, ds, dt⟩
    ·intro bi
     have H := fX (btf bi) H
     refine fc<|fa<|Em Z<|Em Z<|?_
     obtain ⟨ea, b6, H⟩ := bnd H
     obtain ⟨eM, bP, c4⟩ := RowR.at o b6
     obtain rfl := c4
     refine Eq Z (gz (T := Ty.i64) Mb5 o bP (fL b6).1 rfl rfl rfl rfl rfl)<|El (Vi ea) Z (gQ (T := Ty.i64) Mb5 o bP rfl rfl)<|Ec Z<|Ea Z<|fb<|?_
     refine fm rfl ?_ ?_
     ·intro au
      obtain ⟨au, H⟩ := It au H
      refine fc<|fa<|Ea Z<|fb<|fc<|fa<|Ea Z<|fb<|fc<|?_
      obtain ⟨e2, b7, H⟩ := bnd H
      obtain ⟨eb, b8, H⟩ := bnd H
      obtain ⟨cv, b9, H⟩ := bnd H
      obtain ⟨ab, be, ec, dO, H⟩ := k7 H
      refine fq _ rfl (Ic Mb1 (Ic Mb2 (Ic Mb3 (Ic Mb4 (Ic Mb5 (Ic Mb6 (Ic Mb7 (Ic Mb8 (Ic Mb9 (Ic ul In0))))))))))<|Jm 1 Z<|Jm 2 Z<|Jm 3 Z<|?_
      have bs := (bv.mono af).mono aL
      obtain ⟨eN, bQ, c5⟩ := RowR.at bs b7
      obtain ⟨d2, rfl, bW⟩ := c5
      refine Jq 4 Z (gz (T := (Ty.sl gC)) Mb7 bs bQ (fL b7).1 rfl rfl rfl rfl rfl)<|Jl 5 (sv d2) Z (gQ (T := (Ty.sl gC)) Mb7 bs bQ rfl rfl)<|Jm 6 Z<|Jm 7 Z<|?_
      obtain ⟨eO, bR, c6⟩ := RowR.at t b8
      obtain rfl := c6
      refine Jq 8 Z (gz (T := Ty.i64) Mb3 t bR (fL b8).1 rfl rfl rfl rfl rfl)<|Jl 9 (Vi eb) Z (gQ (T := Ty.i64) Mb3 t bR rfl rfl)<|?_
      obtain ⟨eP, c7, cT⟩ := Slr.at bW b9
      obtain ⟨cp, cq, rfl, du, dv⟩ := c7
      refine Jq 10 Z (Qi (T := gC) bW b9 Z)<|JL 11 7 (fh cv cp cq) Z (Rdc.k cT rfl)<|?_
      refine gB 0 (by kernel_rfl) (Jyq Z (jn (m := 3) (cs := (fj (f6.mk E F J) X Y)) rfl rfl rfl rfl ⟨rfl, Rb0 Z⟩) ⟨(Ic Mb1 (Ic Mb2 (Ic Mb3 (Ic Mb4 (Ic Mb5 (Ic Mb6 (Ic Mb7 (Ic Mb8 (Ic Mb9 (Ic ul In0)))))))))), ?_⟩)
      refine Ao 12 Z ?_
      refine Ek Tryz.call24 Z (C0 (f6.mk E F J) X Y c cv cp cq ab be ec dO _ _ aN aO du dv) ?_
      rintro _ bG _ ay ⟨ba, bb, bc, rfl, rfl, dw, dx, bt⟩
      refine ⟨(Ic Mb2 (Ic Mb3 (Ic Mb4 (Ic Mb5 (Ic Mb6 (Ic Mb7 (Ic Mb8 (Ic Mb9 (Ic ul (Ic EA In0)))))))))), ?_⟩
      refine Jm 13 Z<|Jx 14 Z<|Jx 15 Z<|Jx 16 Z<|?_
      refine Ao 17 Z ?_
      refine Sa (fj ab ba bb) Z (.there .here) Z ⟨(Ic Mb2 (Ic Mb3 (Ic Mb4 (Ic Mb5 (Ic Mb6 (Ic Mb7 (Ic Mb8 (Ic Mb9 (Ic ul (Ic EA In0)))))))))), ?_⟩
      refine Ja 18 Z<|Ja 19 Z<|Ad<|?_
      refine fz (fun u a n => ∃ (aZ : ad1) (a5 : List (List Value)), [(4, (Vp p)), (7, (Vp j)), (8, (Vp s)), (9, (sv h)), (10, (Vp A)), (11, (sv y)), (12, (sv z)), (13, (sv M)), (14, (sv x)), (15, (Vi w)), (17, (sv bc))] = u ∧ bG = a ∧ (.blk A 60 (fj ab ba bb)) :: (.blk s 27 (fp b e f)) :: (.blk j 99 (fE (fg.mk g.list P ((fg.mk g.list B C).value)) O)) :: (.blk p 27 (fp (fM.mk [] [] 0) fB fB)) :: (.row (sv z) 3 1 a5.flatten) :: (.tok 67 6 [(sv bc)]) :: (.row (sv y) 3 1 N.flatten) :: (.row (sv M) 38 5 W.flatten) :: (.tok 40 8 [(sv x)]) :: (.row (sv h) 52 1 aa.flatten) :: (.tok 3 1 [(sv e)]) :: (.tok 36 1 [(sv f)]) :: G = n ∧ oK ac L S U w be ab b g P B C aE aZ = some (I, Q, R) ∧ RowR Ty.i64 a a5 aZ) ?_ ?_
      ·refine fc<|fa<|Em Z<|fb<|?_
       refine fm rfl ?_ ?_
       ·intro bj
        have H := ift bj H
        refine fa<|Em Z<|Em Z<|?_
        obtain ⟨e3, ca, H⟩ := bnd H
        have aQ := o.mono ay
        obtain ⟨eQ, bm, c8⟩ := RowR.at aQ ca
        obtain rfl := c8
        refine Eq Z (gz (T := Ty.i64) Mb6 aQ bm (fL ca).1 rfl rfl rfl rfl rfl) ?_
        refine ff rfl (gP (T := Ty.i64) (vs := [(Vi 2)]) (r' := [(Vi 2)]) (l' := (f8 D c 2)) rfl rfl rfl rfl rfl (.there (.there (.there (.there (.there (.there .here)))))) aQ bm rfl rfl rfl (RowR.set c aQ rfl) (fun cH => ?_))
        have es := iO bm (v := [(Vi 2)])
        exact fb<|jc<|jc<|jc<|jc<|jc<|gG<|Pu6<|jc<|jc<|jc<|jc<|jc<|Sd<|⟨_, by exact R11, (f8 D c 2), (V.set c.toNat [(Vi 2)]), rfl, rfl, rfl, H, cH⟩
       ·intro bj
        have H := fX (btf bj) H
        refine ft<|jc<|jc<|jc<|jc<|jc<|gG<|Pu6<|jc<|jc<|jc<|jc<|jc<|?_
        have dy := o.mono ay
        exact Sd ⟨_, by exact R11, D, V, rfl, rfl, rfl, H, dy⟩
      rintro _ _ _ - ⟨aZ, a5, rfl, rfl, rfl, H, cG⟩
      unfold oK at H
      refine fc<|fa<|Em Z<|Eq Z (gg (T := fP) bt rfl rfl)<|Em Z<|fb<|fA<|?_
      refine f7 (fun cn u a n => ∃ (am : ad1) (aH : List (List Value)) (an : ad6) (aI : List (List Value)) (aD : Int), [(4, (Vp p)), (7, (Vp j)), (8, (Vp s)), (9, (sv h)), (10, (Vp A)), (11, (sv y)), (12, (sv z)), (13, (sv M)), (14, (sv x)), (15, (Vi w)), (109, (sv bc)), (110, (Vi (be.length : Int))), (111, (Vi aD))] = u ∧ bG = a ∧ (.blk A 60 (fj ab ba bb)) :: (.blk s 27 (fp b e f)) :: (.blk j 99 (fE (fg.mk g.list P ((fg.mk g.list B C).value)) O)) :: (.blk p 27 (fp (fM.mk [] [] 0) fB fB)) :: (.row (sv z) 3 1 aH.flatten) :: (.row (sv M) 38 5 aI.flatten) :: (.tok 67 6 [(sv bc)]) :: (.row (sv y) 3 1 N.flatten) :: (.tok 40 8 [(sv x)]) :: (.row (sv h) 52 1 aa.flatten) :: (.tok 3 1 [(sv e)]) :: (.tok 36 1 [(sv f)]) :: G = n ∧ lp3 (vP ac L U w be ab b g P B C aE) cn am an aD = some (I, Q, R) ∧ RowR Ty.i64 a aH am ∧ RowR fO a aI an) BIG ?_ ?_
      ·refine jc<|jc<|jc<|jc<|gG<|gG<|jc<|jc<|jc<|jc<|jc<|jc<|?_
       have dz := ag.mono ay
       exact Sd ⟨_, by exact R13, aZ, a5, S, W, 0, rfl, rfl, rfl, H, cG, dz⟩
      rintro cn _ _ _ - ⟨am, aH, an, aI, aD, rfl, rfl, rfl, H, aA, aB⟩
      obtain ⟨eF, eD, rfl, cW, H⟩ := xt H
      unfold vP at H
      refine fc<|fa<|Ec Z<|fb<|fc<|?_
      refine fm rfl ?_ ?_
      ·intro av
       obtain ⟨av, H⟩ := It av H
       refine ft<|fc<|fA<|fc<|fa<|?_
       obtain ⟨i, cb, H⟩ := bnd H
       obtain ⟨_, rfl, cU⟩ := Slr.at bt cb
       refine Eq Z (Qi (T := fP) bt cb Z)<|EL 6 (fK i) Z (Rdc.k cU rfl)<|?_
       refine ff rfl (fC (cs := (fK (Done.mk 0 (Result.mk 0 0 0 false 0)))) rfl rfl rfl rfl (fun em => ?_))
       refine ff rfl (Sa (fK i) Z .here Z ?_)
       refine fb<|fc<|fa<|Em Z<|EF 0 Z<|El (Vi i.thread) Z (Rb0 Z)<|EF 1 Z<|EL 5 (fe i.result) Z (Rb0 Z)<|?_
       obtain ⟨e4, cc, H⟩ := bnd H
       obtain ⟨eR, bn, c9⟩ := RowR.at aB cc
       obtain rfl := c9
       refine Eq Z (gz (T := fO) Mb6 aB bn (fL cc).1 rfl rfl rfl rfl rfl) ?_
       refine ff rfl (gP (T := fO) (vs := (fe i.result)) (r' := (fe i.result)) (l' := (f8 an i.thread i.result)) rfl rfl rfl rfl rfl (.there (.there (.there (.there (.there (.there .here)))))) aB bn rfl rfl rfl (RowR.set i.thread aB rfl) (fun cI => ?_))
       have et := iO bn (v := (fe i.result))
       refine fb<|fa<|Em Z<|EF 0 Z<|El (Vi i.thread) Z (Rb0 Z)<|?_
       obtain ⟨e5, cd, H⟩ := bnd H
       obtain ⟨eS, bo, da⟩ := RowR.at aA cd
       obtain rfl := da
       refine Eq Z (gz (T := Ty.i64) Mb5 aA bo (fL cd).1 rfl rfl rfl rfl rfl) ?_
       refine ff rfl (gP (T := Ty.i64) (vs := [(Vi 3)]) (r' := [(Vi 3)]) (l' := (f8 am i.thread 3)) rfl rfl rfl rfl rfl (.there (.there (.there (.there (.there .here))))) aA bo rfl rfl rfl (RowR.set i.thread aA rfl) (fun cJ => ?_))
       have eu := iO bo (v := [(Vi 3)])
       exact fb<|fa<|Er (wI (aD + 1)) Z<|Em Z<|fb<|qj<|qj<|qj<|qj<|qj<|qj<|qj<|qj<|qj<|qj<|qj<|qj<|Re12<|Sd<|⟨_, by exact R13, _, Nat.lt_succ_self _, (f8 am i.thread 3), (aH.set i.thread.toNat [(Vi 3)]), (f8 an i.thread i.result), (aI.set i.thread.toNat (fe i.result)), (wI (aD + 1)), rfl, rfl, rfl, (cW ▸ H), cJ, cI⟩
      ·intro av
       obtain ⟨av, H⟩ := If av H
       refine f9<|jc<|jc<|jc<|jc<|Pu9<|Pu9<|jc<|gG<|gG<|gG<|gG<|Re11<|?_
       have dA := t.mono ay
       have dB := aC.mono ay
       exact Sd ⟨_, by exact R10, L, N, am, aH, an, aI, x, U, ba, ab.chans, bb, ab.waiting, ab.tick, P, rfl, rfl, H, dA, aA, aB, dB, dw, dx⟩
     ·intro au
      obtain ⟨au, H⟩ := If au H
      refine fc<|fa<|Em Z<|Em Z<|?_
      obtain ⟨ed, ce, H⟩ := bnd H
      obtain ⟨eT, bS, db⟩ := RowR.at o ce
      obtain rfl := db
      refine Eq Z (gz (T := Ty.i64) Mb5 o bS (fL ce).1 rfl rfl rfl rfl rfl)<|El (Vi ed) Z (gQ (T := Ty.i64) Mb5 o bS rfl rfl)<|Ec Z<|Ea Z<|fb<|?_
      refine fm rfl ?_ ?_
      ·intro aw
       obtain ⟨aw, H⟩ := It aw H
       refine fc ?_
       obtain ⟨ap, cf, H⟩ := bnd H
       obtain ⟨aq, cg, H⟩ := bnd H
       obtain ⟨ee, dP, H⟩ := bnd H
       refine fq _ rfl (Ic Mb0 (Ic Mb1 (Ic Mb2 (Ic Mb3 (Ic Mb4 (Ic Mb5 (Ic Mb6 (Ic Mb8 (Ic Mb9 (Ic ul In0))))))))))<|Jm 0 Z<|Jm 1 Z<|Jm 2 Z<|Jm 3 Z<|?_
       obtain ⟨eU, bT, dc⟩ := RowR.at t cf
       obtain rfl := dc
       refine Jq 4 Z (gz (T := Ty.i64) Mb4 t bT (fL cf).1 rfl rfl rfl rfl rfl)<|Jl 5 (Vi ap) Z (gQ (T := Ty.i64) Mb4 t bT rfl rfl)<|Jm 6 Z<|Jm 7 Z<|?_
       obtain ⟨eV, bU, dd⟩ := RowR.at ag cg
       obtain rfl := dd
       refine Jq 8 Z (gz (T := fO) Mb6 ag bU (fL cg).1 rfl rfl rfl rfl rfl)<|JL 9 5 (fe aq) Z (gQ (T := fO) Mb6 ag bU rfl rfl)<|Jq 10 Z (fH (cs := (fZ (Event.mk c ap true aq))) rfl rfl rfl rfl rfl rfl)<|?_
       refine Ao 11 Z ?_
       have bI : RowR f4 aK [(fZ (Event.mk c ap true aq))] [(Event.mk c ap true aq)] := RowR.cons rfl (RowR.nil)
       refine gk (T := f4) (rows := [(fZ (Event.mk c ap true aq))]) (l := [(Event.mk c ap true aq)]) rfl rfl rfl bI rfl rfl rfl rfl rfl rfl rfl rfl (fun e0 => ⟨(Ic Mb1 (Ic Mb2 (Ic Mb3 (Ic Mb4 (Ic Mb5 (Ic Mb6 (Ic Mb7 (Ic Mb9 (Ic ul (Ic EA In0)))))))))), ?_⟩)
       refine Ao 12 Z ?_
       refine ga (T := f4) (bytes := 64) (q := 0) rfl rfl rfl aC Mb8 rfl (SrcT.row Mb0 bI rfl) dP rfl rfl rfl rfl rfl rfl rfl rfl (fun d3 eh az dC => ⟨_, (.there (.there (.there (.there (.there (.there (.there (.there .here)))))))), ⟨(Ic Mb1 (Ic Mb2 (Ic Mb3 (Ic Mb4 (Ic Mb5 (Ic Mb6 (Ic Mb7 (Ic Mb9 (Ic ul (Ic EA In0)))))))))), ?_⟩⟩)
       refine Aw.shift (Re0 (Sd ⟨(Ic Mb0 (Ic Mb1 (Ic Mb2 (Ic Mb3 (Ic Mb4 (Ic Mb5 (Ic Mb6 (Ic Mb8 (Ic Mb9 (Ic ul In0)))))))))), ?_⟩))
       refine Ja 13 Z<|Ad<|fc<|fa<|Em Z<|Em Z<|?_
       obtain ⟨ad, ch, H⟩ := bnd H
       have ah := t.mono az
       obtain ⟨eW, bV, de⟩ := RowR.at ah ch
       obtain rfl := de
       refine Eq Z (gz (T := Ty.i64) Mb4 ah bV (fL ch).1 rfl rfl rfl rfl rfl)<|El (Vi ad) Z (gQ (T := Ty.i64) Mb4 ah bV rfl rfl)<|Er (wI (ad + 1)) Z<|?_
       obtain ⟨e6, ci, H⟩ := bnd H
       obtain ⟨eX, bp, df⟩ := RowR.at ah ci
       obtain rfl := df
       refine Eq Z (gz (T := Ty.i64) Mb4 ah bp (fL ci).1 rfl rfl rfl rfl rfl) ?_
       refine ff rfl (gP (T := Ty.i64) (vs := [(Vi (wI (ad + 1)))]) (r' := [(Vi (wI (ad + 1)))]) (l' := (f8 L c (wI (ad + 1)))) rfl rfl rfl rfl rfl (.there (.there (.there (.there .here)))) ah bp rfl rfl rfl (RowR.set c ah rfl) (fun cK => ?_))
       have ev := iO bp (v := [(Vi (wI (ad + 1)))])
       refine fb<|fa<|Em Z<|Em Z<|?_
       obtain ⟨e7, cj, H⟩ := bnd H
       have aR := o.mono az
       obtain ⟨eY, bq, dg⟩ := RowR.at aR cj
       obtain rfl := dg
       refine Eq Z (gz (T := Ty.i64) Mb5 aR bq (fL cj).1 rfl rfl rfl rfl rfl) ?_
       refine ff rfl (gP (T := Ty.i64) (vs := [(Vi 0)]) (r' := [(Vi 0)]) (l' := (f8 D c 0)) rfl rfl rfl rfl rfl (.there (.there (.there (.there (.there .here))))) aR bq rfl rfl rfl (RowR.set c aR rfl) (fun cL => ?_))
       have ew := iO bq (v := [(Vi 0)])
       refine fb<|gG<|gG<|gG<|gG<|gG<|gG<|gG<|gG<|gG<|gG<|gG<|?_
       have dD := ag.mono az
       have dE := aN.mono az
       have dF := aO.mono az
       exact Sd ⟨_, by exact R10, (f8 L c (wI (ad + 1))), (N.set c.toNat [(Vi (wI (ad + 1)))]), (f8 D c 0), (V.set c.toNat [(Vi 0)]), S, W, d3, ee, X, E, Y, F, J, P, rfl, rfl, H, cK, cL, dD, dC, dE, dF⟩
      ·intro aw
       obtain ⟨aw, H⟩ := If aw H
       exact ft<|gG<|gG<|gG<|gG<|gG<|gG<|gG<|gG<|gG<|gG<|gG<|Sd<|⟨_, by exact R10, L, N, D, V, S, W, x, U, X, E, Y, F, J, P, rfl, rfl, H, t, o, ag, aC, aN, aO⟩
   rintro _ ei _ ex ⟨aV, a2, aW, a3, aX, a4, aJ, aY, a8, aF, a9, aG, aT, aU, rfl, rfl, H, cC, cD, cE, dj, dk, dl⟩
   unfold pI at H
   exact fa<|Em Z<|Er (wI (w + 1)) Z<|Ea Z<|fb<|gG<|gG<|gG<|gG<|gG<|gG<|gG<|gG<|gG<|gG<|gG<|Sd<|⟨_, by exact R10, _, Nat.lt_succ_self _, aV, a2, aW, a3, aX, a4, aJ, aY, (wI (w + 1)), a8, aF, a9, aG, aT, aU, ((fg.mk g.list B C).value), rfl, rfl, (cV ▸ H), cC, cD, cE, dj, dk, dl⟩
  ·intro bh
   have H := fX (btf bh) H
   exact f9<|gG<|gG<|gG<|gG<|Pu7<|Pu6<|Re6<|Re6<|Re6<|Re6<|Re6<|Sd<|⟨_, by exact R4, x, U, rfl, rfl, H, aC⟩
 rintro _ ej _ bk ⟨ak, bw, rfl, rfl, H, dh⟩
 unfold vO at H
 refine fc<|fa<|EL 3 (fp b e f) Z (Rb0 Z)<|Em Z<|Em Z<|?_
 refine ff rfl (Sa (fp b e f) Z (.there .here) Z ?_)
 refine Ea Z<|Ea Z<|fb<|fx<|?_
 obtain ⟨en, eo, ep⟩ := jP H
 subst I Q R
 refine ⟨(.inl rfl), [(.agg (fp b e f).toArray), (sv h), (sv ak)], ⟨(.agg (fp b e f).toArray), _, rfl, ⟨_, 3, (fp b e f), rfl, rfl, rfl, rfl, ⟨rfl, Rb1 Z⟩, rfl⟩, ⟨(sv h), _, rfl, rfl, ⟨(sv ak), _, rfl, rfl, rfl⟩⟩⟩, ?_⟩
 refine Pu2<|Pu3<|Pu5<|Pu5<|Re4<|Re4<|?_
 have dG := (b0.mono af).mono bk
 have dH := (b1.mono af).mono bk
 have dI := (bv.mono af).mono bk
 exact Sd ⟨e, f, h, aa, ak, rfl, rfl, dG, dH, dI, dh⟩
theorem C4 (p0 : ad4) (R : SV) (p1 : Int) (p2 : Int) (p3 : Int) (n : ad4) (H : rO p0 p1 p2 p3 = some n) (K : Kp) (G : List Ent) (ac : Slr f4 K (sv R) p0) :
  Fc Tryz.prog 10 #[(sv R), (Vi p1), (.int .u8 p2), (.int .u8 p3)] K (G) (fun v o w => ∃ (S : SV) (Q : List (List Value)), v = (sv S) ∧ K = o ∧ (.row (sv S) 40 8 Q.flatten) :: G = w ∧ RowR f4 o Q n) := by
 refine fN Tryz.func10 rfl Tryz.ntmps10 Tryz.results10 rfl ?_
 unfold rO at H
 refine fc<|fa<|Ea Z<|fb<|fc<|fa<|Em Z<|?_
 have ab : RowR f4 K [] [] := RowR.nil
 refine Ow.shift (Shift.nilRow 40 8 (Sd ?_))
 obtain ⟨i, ak, H⟩ := bnd H
 refine ff rfl (gZ (T := f4) (bytes := 64) rfl rfl rfl Mb0 ab (SrcT.sl ac) ak rfl rfl rfl rfl rfl rfl rfl rfl (fun h l f => ⟨_, .here, ?_⟩))
 refine Ea Z<|fb<|fc<|fc<|fa<|Em Z<|Eq Z (ln (T := f4) Mb0 f rfl rfl rfl)<|Ec Z<|fb<|?_
 refine fm rfl ?_ ?_
 ·intro t
  obtain ⟨t, H⟩ := It t H
  refine fc<|fa<|Em Z<|Ea Z<|fb<|fx<|?_
  obtain C := gn H
  subst n
  refine ⟨(.inl rfl), [(sv h)], ⟨(sv h), _, rfl, rfl, rfl⟩, ?_⟩
  exact Sd ⟨h, l, rfl, rfl, rfl, f⟩
 ·intro t
  obtain ⟨t, H⟩ := If t H
  refine ft<|fc<|fa<|Em Z<|Em Z<|Eq Z (ln (T := f4) Mb0 f rfl rfl rfl)<|?_
  obtain ⟨g, al, H⟩ := bnd H
  refine ff rfl (Ek Tryz.call12 Z (C3 p1 (i.length : Int) g al _ _ ) ?_)
  rintro _ _ _ - ⟨rfl, rfl, rfl⟩
  refine Ea Z<|fb<|fc<|fc<|fa<|Em Z<|Em Z<|?_
  obtain ⟨am, P, H⟩ := bnd H
  obtain ⟨az, F, aj⟩ := RowR.at f P
  obtain rfl := aj
  refine Eq Z (gz (T := f4) Mb0 f F (fL P).1 rfl rfl rfl rfl rfl)<|EF 2 Z<|El (.bool am.ret) Z (gQ (T := f4) Mb0 f F rfl rfl)<|Eq Z (gi rfl)<|fb<|?_
  refine fm rfl ?_ ?_
  ·intro k
   have k := ix k
   have H := fX (btf k) H
   refine fc<|fa<|Em Z<|Ea Z<|fb<|fx<|?_
   obtain C := gn H
   subst n
   refine ⟨(.inl rfl), [(sv h)], ⟨(sv h), _, rfl, rfl, rfl⟩, ?_⟩
   exact Sd ⟨h, l, rfl, rfl, rfl, f⟩
  ·intro k
   have k := iw k
   have H := ift k H
   refine ft ?_
   refine fz (fun U o w => ∃ (B : ad4) (u : List (List Value)), [(9, (sv h))] = U ∧ K = o ∧ (.row (sv h) 40 8 u.flatten) :: G = w ∧ pK B = some n ∧ RowR f4 o u B) ?_ ?_
   ·refine fc<|fa<|Em Z<|Eq Z (td rfl rfl (by decide))<|fb<|fA<|fc<|fa<|Ec Z<|Ea Z<|fb<|?_
    refine fm rfl ?_ ?_
    ·intro p
     obtain ⟨p, H⟩ := It p H
     refine fa<|Em Z<|Em Z<|Em Z<|Eq Z (td rfl rfl (by decide))<|Eq Z (kJ (c := wU (Int.tmod p3 12)) rfl rfl rfl rfl)<|?_
     obtain ⟨a, I, H⟩ := bnd H
     obtain ⟨ar, x, ad⟩ := RowR.at f I
     obtain rfl := ad
     refine Eq Z (gz (T := f4) Mb0 f x (fL I).1 rfl rfl rfl rfl rfl)<|EF 3 Z<|EF 5 Z<|?_
     refine ff rfl (gP (T := f4) (vs := [(.int .u64 (wU (Int.tmod p3 12)))]) (r' := (fZ (Event.mk a.thread a.op a.ret (Result.mk a.result.kind a.result.case_ (wU (Int.tmod p3 12)) a.result.ok a.result.number)))) (l' := (f8 i g (Event.mk a.thread a.op a.ret (Result.mk a.result.kind a.result.case_ (wU (Int.tmod p3 12)) a.result.ok a.result.number)))) rfl rfl rfl rfl rfl .here f x rfl rfl rfl (RowR.set g f rfl) (fun W => ?_))
     have an := iO x (v := (fZ (Event.mk a.thread a.op a.ret (Result.mk a.result.kind a.result.case_ (wU (Int.tmod p3 12)) a.result.ok a.result.number))))
     exact fb<|Sd<|⟨_, by exact R1, (f8 i g (Event.mk a.thread a.op a.ret (Result.mk a.result.kind a.result.case_ (wU (Int.tmod p3 12)) a.result.ok a.result.number))), (l.set g.toNat (fZ (Event.mk a.thread a.op a.ret (Result.mk a.result.kind a.result.case_ (wU (Int.tmod p3 12)) a.result.ok a.result.number)))), rfl, rfl, rfl, H, W⟩
    ·intro p
     obtain ⟨p, H⟩ := If p H
     refine fc<|fa<|Ec Z<|Ea Z<|fb<|?_
     refine fm rfl ?_ ?_
     ·intro q
      obtain ⟨q, H⟩ := It q H
      refine fa<|Em Z<|Em Z<|Em Z<|Em Z<|?_
      obtain ⟨m, J, H⟩ := bnd H
      obtain ⟨au, D, ae⟩ := RowR.at f J
      obtain rfl := ae
      refine Eq Z (gz (T := f4) Mb0 f D (fL J).1 rfl rfl rfl rfl rfl)<|EF 3 Z<|EF 6 Z<|El (.bool m.result.ok) Z (gQ (T := f4) Mb0 f D rfl rfl)<|Eq Z (gi rfl)<|?_
      obtain ⟨b, L, H⟩ := bnd H
      obtain ⟨av, y, af⟩ := RowR.at f L
      obtain rfl := af
      refine Eq Z (gz (T := f4) Mb0 f y (fL L).1 rfl rfl rfl rfl rfl)<|EF 3 Z<|EF 6 Z<|?_
      refine ff rfl (gP (T := f4) (vs := [(.bool (!(m.result.ok)))]) (r' := (fZ (Event.mk b.thread b.op b.ret (Result.mk b.result.kind b.result.case_ b.result.value (!(m.result.ok)) b.result.number)))) (l' := (f8 i g (Event.mk b.thread b.op b.ret (Result.mk b.result.kind b.result.case_ b.result.value (!(m.result.ok)) b.result.number)))) rfl rfl rfl rfl rfl .here f y rfl rfl rfl (RowR.set g f rfl) (fun X => ?_))
      have ao := iO y (v := (fZ (Event.mk b.thread b.op b.ret (Result.mk b.result.kind b.result.case_ b.result.value (!(m.result.ok)) b.result.number))))
      exact fb<|Sd<|⟨_, by exact R1, (f8 i g (Event.mk b.thread b.op b.ret (Result.mk b.result.kind b.result.case_ b.result.value (!(m.result.ok)) b.result.number))), (l.set g.toNat (fZ (Event.mk b.thread b.op b.ret (Result.mk b.result.kind b.result.case_ b.result.value (!(m.result.ok)) b.result.number)))), rfl, rfl, rfl, H, X⟩
     ·intro q
      obtain ⟨q, H⟩ := If q H
      refine fc<|fa<|Ec Z<|Ea Z<|fb<|?_
      refine fm rfl ?_ ?_
      ·intro r
       obtain ⟨r, H⟩ := It r H
       refine fa<|Em Z<|Em Z<|Em Z<|Eq Z (kJ (c := wI p3) rfl rfl rfl rfl)<|Eq Z (td rfl rfl (by decide))<|Er (wI (1 + (Int.tmod (wI p3) 7))) Z<|?_
       obtain ⟨d, M, H⟩ := bnd H
       obtain ⟨aw, z, ag⟩ := RowR.at f M
       obtain rfl := ag
       refine Eq Z (gz (T := f4) Mb0 f z (fL M).1 rfl rfl rfl rfl rfl)<|EF 3 Z<|EF 3 Z<|?_
       refine ff rfl (gP (T := f4) (vs := [(Vi (wI (1 + (Int.tmod (wI p3) 7))))]) (r' := (fZ (Event.mk d.thread d.op d.ret (Result.mk (wI (1 + (Int.tmod (wI p3) 7))) d.result.case_ d.result.value d.result.ok d.result.number)))) (l' := (f8 i g (Event.mk d.thread d.op d.ret (Result.mk (wI (1 + (Int.tmod (wI p3) 7))) d.result.case_ d.result.value d.result.ok d.result.number)))) rfl rfl rfl rfl rfl .here f z rfl rfl rfl (RowR.set g f rfl) (fun Y => ?_))
       have ap := iO z (v := (fZ (Event.mk d.thread d.op d.ret (Result.mk (wI (1 + (Int.tmod (wI p3) 7))) d.result.case_ d.result.value d.result.ok d.result.number))))
       exact fb<|Sd<|⟨_, by exact R1, (f8 i g (Event.mk d.thread d.op d.ret (Result.mk (wI (1 + (Int.tmod (wI p3) 7))) d.result.case_ d.result.value d.result.ok d.result.number))), (l.set g.toNat (fZ (Event.mk d.thread d.op d.ret (Result.mk (wI (1 + (Int.tmod (wI p3) 7))) d.result.case_ d.result.value d.result.ok d.result.number)))), rfl, rfl, rfl, H, Y⟩
      ·intro r
       obtain ⟨r, H⟩ := If r H
       refine fc<|fa<|Ec Z<|Ea Z<|fb<|?_
       refine fm rfl ?_ ?_
       ·intro s
        obtain ⟨s, H⟩ := It s H
        refine fa<|Em Z<|Em Z<|?_
        obtain ⟨j, N, H⟩ := bnd H
        obtain ⟨ax, E, ah⟩ := RowR.at f N
        obtain rfl := ah
        refine Eq Z (gz (T := f4) Mb0 f E (fL N).1 rfl rfl rfl rfl rfl)<|EF 3 Z<|EF 7 Z<|El (Vi j.result.number) Z (gQ (T := f4) Mb0 f E rfl rfl)<|Em Z<|Eq Z (kJ (c := wI p3) rfl rfl rfl rfl)<|Eq Z (td rfl rfl (by decide))<|Er (wI ((Int.tmod (wI p3) 3) - 1)) Z<|Er (wI (j.result.number + (wI ((Int.tmod (wI p3) 3) - 1)))) Z<|?_
        obtain ⟨e, O, H⟩ := bnd H
        obtain ⟨ay, A, ai⟩ := RowR.at f O
        obtain rfl := ai
        refine Eq Z (gz (T := f4) Mb0 f A (fL O).1 rfl rfl rfl rfl rfl)<|EF 3 Z<|EF 7 Z<|?_
        refine ff rfl (gP (T := f4) (vs := [(Vi (wI (j.result.number + (wI ((Int.tmod (wI p3) 3) - 1)))))]) (r' := (fZ (Event.mk e.thread e.op e.ret (Result.mk e.result.kind e.result.case_ e.result.value e.result.ok (wI (j.result.number + (wI ((Int.tmod (wI p3) 3) - 1)))))))) (l' := (f8 i g (Event.mk e.thread e.op e.ret (Result.mk e.result.kind e.result.case_ e.result.value e.result.ok (wI (j.result.number + (wI ((Int.tmod (wI p3) 3) - 1)))))))) rfl rfl rfl rfl rfl .here f A rfl rfl rfl (RowR.set g f rfl) (fun aa => ?_))
        have aq := iO A (v := (fZ (Event.mk e.thread e.op e.ret (Result.mk e.result.kind e.result.case_ e.result.value e.result.ok (wI (j.result.number + (wI ((Int.tmod (wI p3) 3) - 1))))))))
        exact fb<|Sd<|⟨_, by exact R1, (f8 i g (Event.mk e.thread e.op e.ret (Result.mk e.result.kind e.result.case_ e.result.value e.result.ok (wI (j.result.number + (wI ((Int.tmod (wI p3) 3) - 1))))))), (l.set g.toNat (fZ (Event.mk e.thread e.op e.ret (Result.mk e.result.kind e.result.case_ e.result.value e.result.ok (wI (j.result.number + (wI ((Int.tmod (wI p3) 3) - 1)))))))), rfl, rfl, rfl, H, aa⟩
       ·intro s
        obtain ⟨s, H⟩ := If s H
        exact ft<|Sd<|⟨_, by exact R1, i, l, rfl, rfl, rfl, H, f⟩
   rintro _ _ _ - ⟨B, u, rfl, rfl, rfl, H, V⟩
   unfold pK at H
   refine fc<|fa<|Em Z<|Ea Z<|fb<|fx<|?_
   obtain C := gn H
   subst n
   refine ⟨(.inl rfl), [(sv h)], ⟨(sv h), _, rfl, rfl, rfl⟩, ?_⟩
   exact Sd ⟨h, u, rfl, rfl, rfl, V⟩
end Go.Hx
namespace Go.Hx
open Go Go.Proofs
set_option maxRecDepth 10000
set_option maxHeartbeats 1000000
theorem qq (p0 : Op) (b : SV) (f : SV) (p1 : Result) (c : Case) (e : Bool) (H : ni p0 p1 = some (c, e)) (K : Kp) (G : List Ent) (l : Slr fW K (sv b) p0.cases) (B : Slr Ty.i64 K (sv f) p0.draws) :
  Fc Tryz.prog 109 #[(.agg (fh p0 b f).toArray), (.agg (fe p1).toArray)] K (G) (fun v n m => v = (.tuple #[(.agg (fk c).toArray), (.bool e)]) ∧ K = n ∧ G = m) := by
 refine fN Tryz.func109 rfl Tryz.ntmps109 Tryz.results109 rfl ?_
 unfold ni at H
 refine fc<|fa<|?_
 refine ff rfl (fR (cs := (fh p0 b f)) rfl rfl rfl (fun s => ?_))
 refine ff rfl (fR (cs := (fe p1)) rfl rfl rfl (fun t => ?_))
 refine ff rfl (fC (cs := (fk (Case.mk false 0 0))) rfl rfl rfl rfl (fun u => ?_))
 refine Ea Z<|fb<|fc<|fc<|fa<|EF 0 Z<|El (Vi p0.kind) Z (Rb2 Z)<|Ec Z<|fb<|?_
 refine fm rfl ?_ ?_
 ·intro g
  obtain ⟨g, H⟩ := It g H
  refine fc ?_
  refine fz (fun z n m => ∃ (r : Bool), [(2, (Vp s)), (3, (Vp t)), (4, (Vp u)), (21, (.bool r))] = z ∧ K = n ∧ (.blk u 108 (fk (Case.mk false 0 0))) :: (.blk t 38 (fe p1)) :: (.blk s 51 (fh p0 b f)) :: G = m ∧ rU p1 p0 r = some (c, e)) ?_ ?_
  ·refine fa<|EF 1 Z<|El (Vi p1.case_) Z (Rb1 Z)<|Ec Z<|Em Z<|?_
   refine Ee Z ?_ ?_
   ·intro h
    obtain ⟨h, H⟩ := It h H
    exact Ez Z<|Ez Z<|Ez Z<|Ez Z<|Ez Z<|Ez Z<|Et Z<|fb<|Pu2<|Pu2<|Pu2<|Sd<|⟨_, by exact R4, true, rfl, rfl, rfl, H⟩
   ·intro h
    obtain ⟨h, H⟩ := If h H
    exact VF 1 Z<|Vl (Vi p1.case_) Z (Rb1 Z)<|VF 5 Z<|Vl (sv b) Z (Rb2 Z)<|Vq Z (gg (T := fW) l rfl rfl)<|Vc Z<|Ef Z<|fb<|Pu2<|Pu2<|Pu2<|Sd<|⟨_, by exact R4, (dcd (p1.case_ ≥ (p0.cases.length : Int))), rfl, rfl, rfl, H⟩
  rintro _ _ _ - ⟨r, rfl, rfl, rfl, H⟩
  unfold rU at H
  refine fm rfl ?_ ?_
  ·intro q
   have H := ift q H
   refine fc<|fa<|Eq Z (fH (cs := (fk (Case.mk false 0 0))) rfl rfl rfl rfl rfl rfl)<|?_
   refine ff rfl (Sa (fk (Case.mk false 0 0)) Z .here Z ?_)
   refine Ea Z<|fb<|fx<|?_
   obtain ⟨o, p⟩ := hY H
   subst c e
   refine ⟨(.inl rfl), [(.agg (fk (Case.mk false 0 0)).toArray), (.bool false)], ⟨(.agg (fk (Case.mk false 0 0)).toArray), _, rfl, ⟨_, 3, (fk (Case.mk false 0 0)), rfl, rfl, rfl, rfl, ⟨rfl, Rb0 Z⟩, rfl⟩, ⟨(.bool false), _, rfl, rfl, rfl⟩⟩, ?_⟩
   exact Re0<|Re0<|Re0<|Sd<|⟨rfl, rfl, rfl⟩
  ·intro q
   have H := fX (btf q) H
   refine ft<|fc<|fa<|EF 5 Z<|El (sv b) Z (Rb2 Z)<|EF 1 Z<|El (Vi p1.case_) Z (Rb1 Z)<|?_
   obtain ⟨j, x, H⟩ := bnd H
   obtain ⟨_, rfl, A⟩ := Slr.at l x
   refine Eq Z (Qi (T := fW) l x Z)<|EL 3 (fk j) Z (Rdc.k A rfl)<|?_
   refine ff rfl (Sa (fk j) Z .here Z ?_)
   refine Ea Z<|fb<|fx<|?_
   obtain ⟨o, p⟩ := hY H
   subst c e
   refine ⟨(.inl rfl), [(.agg (fk j).toArray), (.bool true)], ⟨(.agg (fk j).toArray), _, rfl, ⟨_, 3, (fk j), rfl, rfl, rfl, rfl, ⟨rfl, Rb0 Z⟩, rfl⟩, ⟨(.bool true), _, rfl, rfl, rfl⟩⟩, ?_⟩
   exact Re0<|Re0<|Re0<|Sd<|⟨rfl, rfl, rfl⟩
 ·intro g
  obtain ⟨g, H⟩ := If g H
  refine ft<|fc<|fa<|EL 7 (fh p0 b f) Z (Rb2 Z)<|?_
  obtain ⟨a, y, C, H⟩ := ir H
  refine ff rfl (Ek Tryz.call81 Z (Ae p0 b f a y C _ _ l B) ?_)
  rintro _ _ _ - ⟨rfl, rfl, rfl⟩
  refine Em Z<|Ex Z<|Ex Z<|?_
  refine ff rfl (fC (cs := (fk (Case.mk false 0 0))) rfl rfl rfl rfl (fun D => ?_))
  refine ff rfl (Sa (fk a) Z .here Z ?_)
  refine Ea Z<|fb<|fc<|?_
  rcases gR y with w | w <;> revert w
  ·intro i
   have H := ift i H
   refine fq _ rfl (Ic Mb0 (Ic Mb2 (Ic Mb3 In0)))<|JL 0 3 (fk a) Z (Rb0 Z)<|Jm 1 Z<|Jm 2 Z<|Aw.known (d := 36) rfl (i)<|BF 3 1 Z<|Bl 4 (Vi p1.case_) Z (Rb1 Z)<|Bc 5 Z<|Jt 6 Z<|?_
   refine Ao 7 Z ?_
   refine Sa (fk a) Z (.there .here) Z ⟨(Ic Mb0 (Ic Mb2 (Ic Mb3 In0))), ?_⟩
   refine Ja 8 Z<|Ad<|fx<|?_
   obtain ⟨o, p⟩ := hY H
   subst c e
   refine ⟨(.inl rfl), [(.agg (fk a).toArray), (.bool (dcd (p1.case_ = (-1))))], ⟨(.agg (fk a).toArray), _, rfl, ⟨_, 3, (fk a), rfl, rfl, rfl, rfl, ⟨rfl, Rb1 Z⟩, rfl⟩, ⟨(.bool (dcd (p1.case_ = (-1)))), _, rfl, rfl, rfl⟩⟩, ?_⟩
   exact Re0<|Re0<|Re0<|Re0<|Sd<|⟨rfl, rfl, rfl⟩
  ·intro i
   have H := fX (btf i) H
   refine fq _ rfl (Ic Mb0 (Ic Mb2 (Ic Mb3 In0)))<|JL 0 3 (fk a) Z (Rb0 Z)<|Jm 1 Z<|Jm 2 Z<|Aw.known (d := 36) rfl (i)<|Jz 3 Z<|Jz 4 Z<|Jz 5 Z<|Jf 6 Z<|?_
   refine Ao 7 Z ?_
   refine Sa (fk a) Z (.there .here) Z ⟨(Ic Mb0 (Ic Mb2 (Ic Mb3 In0))), ?_⟩
   refine Ja 8 Z<|Ad<|fx<|?_
   obtain ⟨o, p⟩ := hY H
   subst c e
   refine ⟨(.inl rfl), [(.agg (fk a).toArray), (.bool false)], ⟨(.agg (fk a).toArray), _, rfl, ⟨_, 3, (fk a), rfl, rfl, rfl, rfl, ⟨rfl, Rb1 Z⟩, rfl⟩, ⟨(.bool false), _, rfl, rfl, rfl⟩⟩, ?_⟩
   exact Re0<|Re0<|Re0<|Re0<|Sd<|⟨rfl, rfl, rfl⟩
theorem iR (p0 : Result) (p1 : Bool) (p2 : Bool) (d : Bool) (H : mr p0 p1 p2 = some d) (K : Kp) (G : List Ent)  :
  Fc Tryz.prog 111 #[(.agg (fe p0).toArray), (.bool p1), (.bool p2)] K (G) (fun v f e => v = (.bool d) ∧ K = f ∧ G = e) := by
 refine fN Tryz.func111 rfl Tryz.ntmps111 Tryz.results111 rfl ?_
 unfold mr at H
 refine fc<|fa<|?_
 refine ff rfl (fR (cs := (fe p0)) rfl rfl rfl (fun k => ?_))
 refine Ea Z<|fb<|?_
 refine fz (fun j f e => ∃ (c : Bool), [(6, (.bool c))] = j ∧ K = f ∧ G = e ∧ nj c = some d) ?_ ?_
 ·refine fa<|Em Z<|Em Z<|?_
  refine Ee Z ?_ ?_
  ·intro g
   have H := ift g H
   refine Ez Z<|Ez Z<|Ez Z<|Ez Z<|f0 rfl rfl rfl rfl rfl<|f0 rfl rfl rfl rfl rfl<|f0 rfl rfl rfl rfl rfl<|Ez Z<|Et Z<|Em Z<|Vm Z<|Vm Z<|?_
   refine Ee Z ?_ ?_
   ·intro h
    have H := ift h H
    exact Ez Z<|Ez Z<|Ez Z<|Vt Z<|Et Z<|Ea Z<|fb<|Re0<|Sd<|⟨_, by exact R1, true, rfl, rfl, rfl, H⟩
   ·intro h
    have H := fX (btf h) H
    exact VF 4 Z<|Vl (Vi p0.number) Z (Rb0 Z)<|Vc Z<|Vf Z<|Et Z<|Ea Z<|fb<|Re0<|Sd<|⟨_, by exact R1, (dcd (p0.number = 0)), rfl, rfl, rfl, H⟩
  ·intro g
   have H := fX (btf g) H
   refine VF 2 Z<|Vl (.int .u64 p0.value) Z (Rb0 Z)<|Vc Z<|Vm Z<|?_
   refine Ee Z ?_ ?_
   ·intro b
    obtain ⟨b, H⟩ := It b H
    refine VF 3 Z<|Vl (.bool p0.ok) Z (Rb0 Z)<|Vq Z (gi rfl)<|Vt Z<|Ef Z<|Em Z<|?_
    refine Ee Z ?_ ?_
    ·intro a
     have a := ix a
     have H := fX (btf a) H
     refine Vm Z<|Vm Z<|?_
     refine Ee Z ?_ ?_
     ·intro i
      have H := ift i H
      exact Ez Z<|Ez Z<|Ez Z<|Vt Z<|Et Z<|Ea Z<|fb<|Re0<|Sd<|⟨_, by exact R1, true, rfl, rfl, rfl, H⟩
     ·intro i
      have H := fX (btf i) H
      exact VF 4 Z<|Vl (Vi p0.number) Z (Rb0 Z)<|Vc Z<|Vf Z<|Et Z<|Ea Z<|fb<|Re0<|Sd<|⟨_, by exact R1, (dcd (p0.number = 0)), rfl, rfl, rfl, H⟩
    ·intro a
     have a := iw a
     have H := ift a H
     exact Ez Z<|Ez Z<|f0 rfl rfl rfl rfl rfl<|f0 rfl rfl rfl rfl rfl<|f0 rfl rfl rfl rfl rfl<|Ez Z<|Ef Z<|Ea Z<|fb<|Re0<|Sd<|⟨_, by exact R1, false, rfl, rfl, rfl, H⟩
   ·intro b
    obtain ⟨b, H⟩ := If b H
    exact Ez Z<|Ez Z<|Ez Z<|Vf Z<|Ef Z<|Em Z<|Ez Z<|Ez Z<|f0 rfl rfl rfl rfl rfl<|f0 rfl rfl rfl rfl rfl<|f0 rfl rfl rfl rfl rfl<|Ez Z<|Ef Z<|Ea Z<|fb<|Re0<|Sd<|⟨_, by exact R1, false, rfl, rfl, rfl, H⟩
 rintro _ _ _ - ⟨c, rfl, rfl, rfl, H⟩
 unfold nj at H
 refine fx ?_
 obtain l := gn H
 subst d
 refine ⟨(.inl rfl), [(.bool c)], ⟨(.bool c), _, rfl, rfl, rfl⟩, ?_⟩
 exact Sd ⟨rfl, rfl, rfl⟩
theorem xl (p0 : ad0) (i : SV) (p1 : Int) (p2 : fJ) (a : SV) (e : ad0) (H : sR p0 p1 p2 = some e) (K : Kp) (G : List Ent) (n : Slr fF K (sv i) p0) (o : Slr Ty.u64 K (sv a) p2.buffer) :
  Fc Tryz.prog 112 #[(sv i), (Vi p1), (.agg (fy p2 a).toArray)] K (G) (fun v f k => ∃ (j : SV) (h : List (List Value)), v = (sv j) ∧ K = f ∧ (.row (sv j) 104 3 h.flatten) :: G = k ∧ RowR fF f h e) := by
 refine fN Tryz.func112 rfl Tryz.ntmps112 Tryz.results112 rfl ?_
 unfold sR at H
 refine fc<|fa<|?_
 refine ff rfl (fR (cs := (fy p2 a)) rfl rfl rfl (fun s => ?_))
 refine Ea Z<|fb<|fc<|fa<|Em Z<|?_
 have l : RowR fF K [] [] := RowR.nil
 refine Ow.shift (Shift.nilRow 104 3 (Sd ?_))
 obtain ⟨x19, q, H⟩ := bnd H
 refine ff rfl (gZ (T := fF) (bytes := 40) rfl rfl rfl Mb0 l (SrcT.sl n) q rfl rfl rfl rfl rfl rfl rfl rfl (fun d r b => ⟨_, .here, ?_⟩))
 refine Ea Z<|fb<|fc<|fa<|Em Z<|Em Z<|EL 3 (fy p2 a) Z (Rb1 Z)<|?_
 obtain ⟨z, g, H⟩ := bnd H
 obtain ⟨x, c, p⟩ := RowR.at b g
 obtain ⟨y, rfl, w⟩ := p
 refine Eq Z (gz (T := fF) Mb0 b c (fL g).1 rfl rfl rfl rfl rfl) ?_
 refine ff rfl (gP (T := fF) (vs := (fy p2 a)) (r' := (fy p2 a)) (l' := (f8 x19 p1 p2)) rfl rfl rfl rfl rfl .here b c rfl rfl rfl (RowR.set p1 b ⟨a, rfl, o⟩) (fun m => ?_))
 have u := iO c (v := (fy p2 a))
 refine fb<|fc<|fa<|Em Z<|Ea Z<|fb<|fx<|?_
 obtain t := gn H
 subst e
 refine ⟨(.inl rfl), [(sv d)], ⟨(sv d), _, rfl, rfl, rfl⟩, ?_⟩
 exact Re1<|Sd<|⟨d, (r.set p1.toNat (fy p2 a)), rfl, rfl, rfl, m⟩
theorem Af (p0 : ad0) (b : SV) (p1 : Case) (p2 : Result) (e : ad0) (f : Bool) (H : sW p0 p1 p2 = some (e, f)) (K : Kp) (G : List Ent) (w : Slr fF K (sv b) p0) :
  Fc Tryz.prog 110 #[(sv b), (.agg (fk p1).toArray), (.agg (fe p2).toArray)] K (G) (fun v h g => ∃ (aA : SV), v = (.tuple #[(sv aA), (.bool f)]) ∧ G = g ∧ Slr fF h (sv aA) e) := by
 refine fN Tryz.func110 rfl Tryz.ntmps110 Tryz.results110 rfl ?_
 unfold sW at H
 refine fc<|fa<|?_
 refine ff rfl (fR (cs := (fk p1)) rfl rfl rfl (fun n => ?_))
 refine ff rfl (fR (cs := (fe p2)) rfl rfl rfl (fun r => ?_))
 refine Ea Z<|Ea Z<|fb<|fc<|fc<|fa<|Em Z<|EF 1 Z<|El (Vi p1.channel) Z (Rb1 Z)<|?_
 obtain ⟨a2, aY, H⟩ := bnd H
 refine ff rfl (Ek Tryz.call107 Z (lS p0 b p1.channel a2 aY _ _ w) ?_)
 rintro _ _ _ - ⟨rfl, rfl, rfl⟩
 refine Eq Z (gi rfl)<|fb<|?_
 refine fm rfl ?_ ?_
 ·intro x
  have x := ix x
  have H := fX (btf x) H
  refine fc<|fa<|Ea Z<|Ea Z<|fb<|fx<|?_
  obtain ⟨s, t⟩ := hY H
  subst e f
  refine ⟨(.inl rfl), [(sv fB), (.bool false)], ⟨(sv fB), _, rfl, rfl, ⟨(.bool false), _, rfl, rfl, rfl⟩⟩, ?_⟩
  exact Re0<|Re0<|Sd<|⟨fB, rfl, rfl, (Slr.nil fF _)⟩
 ·intro x
  have x := iw x
  have H := ift x H
  refine ft<|fc<|fa<|Em Z<|EF 1 Z<|El (Vi p1.channel) Z (Rb1 Z)<|?_
  obtain ⟨a, aw, H⟩ := bnd H
  obtain ⟨bk, aI, aG⟩ := Slr.at w aw
  obtain ⟨c, rfl, o⟩ := aI
  refine Eq Z (Qi (T := fF) w aw Z)<|EL 3 (fy a c) Z (Rdc.k aG rfl)<|?_
  refine ff rfl (fC (cs := (fy (fJ.mk 0 [] false) fB)) rfl rfl rfl rfl (fun m => ?_))
  refine ff rfl (Sa (fy a c) Z .here Z ?_)
  refine fb<|fc<|fA<|?_
  refine fz (fun j h g => ∃ (ae : Bool), [(0, (sv b)), (4, (Vp n)), (5, (Vp r)), (8, (Vp m)), (19, (.bool ae))] = j ∧ K = h ∧ (.blk m 104 (fy a c)) :: (.blk r 38 (fe p2)) :: (.blk n 108 (fk p1)) :: G = g ∧ sV p0 a p2 p1 ae = some (e, f)) ?_ ?_
  ·refine fa<|EF 0 Z<|El (Vi p2.kind) Z (Rb1 Z)<|Ec Z<|Em Z<|?_
   refine Ee Z ?_ ?_
   ·intro F
    obtain ⟨F, H⟩ := It F H
    exact VF 0 Z<|Vl (.bool p1.send) Z (Rb2 Z)<|Et Z<|Ea Z<|fb<|Pu2<|Pu2<|Pu2<|Sd<|⟨_, by exact R5, p1.send, rfl, rfl, rfl, H⟩
   ·intro F
    obtain ⟨F, H⟩ := If F H
    exact Ez Z<|Ez Z<|Ef Z<|Ea Z<|fb<|Pu2<|Pu2<|Pu2<|Sd<|⟨_, by exact R5, false, rfl, rfl, rfl, H⟩
  rintro _ _ _ - ⟨ae, rfl, rfl, rfl, H⟩
  unfold sV at H
  refine fm rfl ?_ ?_
  ·intro S
   have H := ift S H
   refine fc ?_
   refine fz (fun j h g => ∃ (af : Bool), [(0, (sv b)), (4, (Vp n)), (8, (Vp m)), (41, (.bool af))] = j ∧ K = h ∧ (.blk m 104 (fy a c)) :: (.blk n 108 (fk p1)) :: G = g ∧ oP p0 a p1 af = some (e, f)) ?_ ?_
   ·refine fa<|EL 5 (fe p2) Z (Rb1 Z)<|?_
    obtain ⟨a3, aZ, H⟩ := bnd H
    refine ff rfl (Ek Tryz.call111 Z (iR p2 false false a3 aZ _ _ ) ?_)
    rintro _ _ _ - ⟨rfl, rfl, rfl⟩
    refine Eq Z (gi rfl)<|Em Z<|?_
    refine Ee Z ?_ ?_
    ·intro y
     have y := ix y
     have H := fX (btf y) H
     exact Ez Z<|Ez Z<|Et Z<|Em Z<|Ez Z<|Ez Z<|Ez Z<|Ez Z<|Ez Z<|Ez Z<|Et Z<|fb<|Pu2<|Pu1<|Re2<|Sd<|⟨_, by exact R4, true, rfl, rfl, rfl, H⟩
    ·intro y
     have y := iw y
     have H := ift y H
     refine VF 2 Z<|Vl (.bool a.closed) Z (Rb0 Z)<|Ef Z<|Em Z<|?_
     refine Ee Z ?_ ?_
     ·intro U
      have H := ift U H
      exact Ez Z<|Ez Z<|Ez Z<|Ez Z<|Ez Z<|Ez Z<|Et Z<|fb<|Pu2<|Pu1<|Re2<|Sd<|⟨_, by exact R4, true, rfl, rfl, rfl, H⟩
     ·intro U
      have H := fX (btf U) H
      exact VF 1 Z<|Vl (sv c) Z (Rb0 Z)<|Vq Z (gg (T := Ty.u64) o rfl rfl)<|VF 0 Z<|Vl (Vi a.capacity) Z (Rb0 Z)<|Vc Z<|Ef Z<|fb<|Pu2<|Pu1<|Re2<|Sd<|⟨_, by exact R4, (dcd ((a.buffer.length : Int) ≥ a.capacity)), rfl, rfl, rfl, H⟩
   rintro _ _ _ - ⟨af, rfl, rfl, rfl, H⟩
   unfold oP at H
   refine fm rfl ?_ ?_
   ·intro V
    have H := ift V H
    refine fc<|fa<|Ea Z<|Ea Z<|fb<|fx<|?_
    obtain ⟨s, t⟩ := hY H
    subst e f
    refine ⟨(.inl rfl), [(sv fB), (.bool false)], ⟨(sv fB), _, rfl, rfl, ⟨(.bool false), _, rfl, rfl, rfl⟩⟩, ?_⟩
    exact Re0<|Re0<|Sd<|⟨fB, rfl, rfl, (Slr.nil fF _)⟩
   ·intro V
    have H := fX (btf V) H
    refine ft ?_
    refine fz (fun j h g => ∃ (D : SV) (C : ad1), [(0, (sv b)), (4, (Vp n)), (8, (Vp m))] = j ∧ (.blk m 104 (fy (fJ.mk a.capacity C a.closed) D)) :: (.blk n 108 (fk p1)) :: (.tok 36 1 [(sv D)]) :: G = g ∧ v8 p0 a p1 C = some (e, f) ∧ Slr Ty.u64 h (sv D) C) ?_ ?_
    ·obtain ⟨bt, ab, H⟩ := bnd H
     obtain ⟨E, ac, H⟩ := bnd H
     refine fq _ rfl (Ic Mb1 In0)<|JF 0 1 Z<|JF 3 2 Z<|Jl 4 (.int .u64 p1.value) Z (Rb0 Z)<|?_
     refine gY 1 5 (by kernel_rfl) ?_ ?_
     ·refine id (Jyq Z (gv (v := (sv c)) rfl rfl rfl (Rb0 Z)) ⟨(Ic Mb1 In0), ?_⟩)
      refine gY 2 5 (by kernel_rfl) ?_ ?_
      ·refine id (Jy Z ?_)
       refine OpW.shift (Shift.nilTok1 36 1 (Sd ?_))
       refine ga (T := Ty.u64) (bytes := 8) (q := 0) rfl rfl rfl (Slr.nil Ty.u64 _) Mb0 rfl (SrcT.sl o) ab rfl rfl rfl rfl rfl rfl rfl rfl (fun bn aC be aK => ⟨_, .here, ⟨(Ic Mb2 In0), ?_⟩⟩)
       refine Ao 5 Z ?_
       have ar : RowR Ty.u64 aC [[(.int .u64 p1.value)]] [p1.value] := RowR.cons rfl (RowR.nil)
       refine gk (T := Ty.u64) (rows := [[(.int .u64 p1.value)]]) (l := [p1.value]) rfl rfl rfl ar rfl rfl rfl rfl rfl rfl rfl rfl (fun bo => ⟨(Ic Mb3 In0), ?_⟩)
       refine Ao 6 Z ?_
       refine ga (T := Ty.u64) (bytes := 8) (q := 0) rfl rfl rfl aK Mb1 rfl (SrcT.row Mb0 ar rfl) ac rfl rfl rfl rfl rfl rfl rfl rfl (fun ak a6 bf aL => ⟨_, (.there .here), ⟨(Ic Mb3 In0), ?_⟩⟩)
       refine Aw.shift (Re0 (Sd ⟨(Ic Mb2 In0), ?_⟩))
       refine JF 7 1 Z ?_
       refine Ao 8 Z ?_
       refine So [(sv ak)] (fy (fJ.mk a.capacity E a.closed) ak) Z (.there .here) Z ⟨(Ic Mb2 In0), ?_⟩
       exact Ad<|Pu2<|Pu2<|Sd<|⟨_, by exact R3, ak, E, rfl, rfl, H, aL⟩
      ·refine id (Jy Z ?_)
       have au : RowR Ty.u64 K [[(.int .u64 p1.value)]] [p1.value] := RowR.cons rfl (RowR.nil)
       refine gk (T := Ty.u64) (rows := [[(.int .u64 p1.value)]]) (l := [p1.value]) rfl rfl rfl au rfl rfl rfl rfl rfl rfl rfl rfl (fun bp => ⟨(Ic Mb2 In0), ?_⟩)
       refine Ao 2 Z ?_
       refine OpW.shift (Shift.nilTok1 36 1 (Sd ?_))
       refine ga (T := Ty.u64) (bytes := 8) (q := 0) rfl rfl rfl (Slr.nil Ty.u64 _) Mb0 rfl (SrcT.sl o) ab rfl rfl rfl rfl rfl rfl rfl rfl (fun bq a7 aD aM => ⟨_, .here, ⟨(Ic Mb3 In0), ?_⟩⟩)
       refine Ao 6 Z ?_
       have aN := au.mono aD
       refine ga (T := Ty.u64) (bytes := 8) (q := 0) rfl rfl rfl aM Mb0 rfl (SrcT.row Mb1 aN rfl) ac rfl rfl rfl rfl rfl rfl rfl rfl (fun al a8 bg aO => ⟨_, .here, ⟨(Ic Mb3 In0), ?_⟩⟩)
       refine Aw.shift (Re1 (Sd ⟨(Ic Mb2 In0), ?_⟩))
       refine JF 7 1 Z ?_
       refine Ao 8 Z ?_
       refine So [(sv al)] (fy (fJ.mk a.capacity E a.closed) al) Z (.there .here) Z ⟨(Ic Mb2 In0), ?_⟩
       exact Ad<|Pu2<|Pu2<|Sd<|⟨_, by exact R3, al, E, rfl, rfl, H, aO⟩
     ·refine id (Jy Z ?_)
      have av : RowR Ty.u64 K [[(.int .u64 p1.value)]] [p1.value] := RowR.cons rfl (RowR.nil)
      refine gk (T := Ty.u64) (rows := [[(.int .u64 p1.value)]]) (l := [p1.value]) rfl rfl rfl av rfl rfl rfl rfl rfl rfl rfl rfl (fun br => ⟨(Ic Mb2 In0), ?_⟩)
      refine gB 1 (by kernel_rfl) (Jyq Z (gv (v := (sv c)) rfl rfl rfl (Rb1 Z)) ⟨(Ic Mb2 In0), ?_⟩)
      refine Ao 2 Z ?_
      refine OpW.shift (Shift.nilTok1 36 1 (Sd ?_))
      refine ga (T := Ty.u64) (bytes := 8) (q := 0) rfl rfl rfl (Slr.nil Ty.u64 _) Mb0 rfl (SrcT.sl o) ab rfl rfl rfl rfl rfl rfl rfl rfl (fun bs a9 aE aP => ⟨_, .here, ⟨(Ic Mb3 In0), ?_⟩⟩)
      refine Ao 6 Z ?_
      have aQ := av.mono aE
      refine ga (T := Ty.u64) (bytes := 8) (q := 0) rfl rfl rfl aP Mb0 rfl (SrcT.row Mb1 aQ rfl) ac rfl rfl rfl rfl rfl rfl rfl rfl (fun am ba bh aR => ⟨_, .here, ⟨(Ic Mb3 In0), ?_⟩⟩)
      refine Aw.shift (Re1 (Sd ⟨(Ic Mb2 In0), ?_⟩))
      refine JF 7 1 Z ?_
      refine Ao 8 Z ?_
      refine So [(sv am)] (fy (fJ.mk a.capacity E a.closed) am) Z (.there .here) Z ⟨(Ic Mb2 In0), ?_⟩
      exact Ad<|Pu2<|Pu2<|Sd<|⟨_, by exact R3, am, E, rfl, rfl, H, aR⟩
    rintro _ bb _ aF ⟨D, C, rfl, rfl, H, aJ⟩
    unfold v8 at H
    refine fc<|fa<|Em Z<|EF 1 Z<|El (Vi p1.channel) Z (Rb1 Z)<|EL 3 (fy (fJ.mk a.capacity C a.closed) D) Z (Rb0 Z)<|?_
    obtain ⟨a4, a0, H⟩ := bnd H
    have aS := w.mono aF
    refine ff rfl (Ek Tryz.call112 Z (xl p0 b p1.channel (fJ.mk a.capacity C a.closed) D a4 a0 _ _ aS aJ) ?_)
    rintro _ _ _ - ⟨an, bl, rfl, rfl, rfl, aT⟩
    refine Ea Z<|Ea Z<|fb<|fx<|?_
    obtain ⟨s, t⟩ := hY H
    subst e f
    refine ⟨(.inl rfl), [(sv an), (.bool true)], ⟨(sv an), _, rfl, rfl, ⟨(.bool true), _, rfl, rfl, rfl⟩⟩, ?_⟩
    refine Shift.settle (T := fF) .here aT rfl ?_
    intro bc bi aU
    exact Re0<|Re0<|Re0<|Re0<|Sd<|⟨an, rfl, rfl, aU⟩
  ·intro S
   have H := fX (btf S) H
   refine fz (fun j h g => ∃ (ag : Bool), [(0, (sv b)), (4, (Vp n)), (5, (Vp r)), (8, (Vp m)), (55, (.bool ag))] = j ∧ K = h ∧ (.blk m 104 (fy a c)) :: (.blk r 38 (fe p2)) :: (.blk n 108 (fk p1)) :: G = g ∧ sU p0 a p2 p1 ag = some (e, f)) ?_ ?_
   ·refine fa<|EF 0 Z<|El (Vi p2.kind) Z (Rb1 Z)<|Ec Z<|Em Z<|?_
    refine Ee Z ?_ ?_
    ·intro I
     obtain ⟨I, H⟩ := It I H
     exact VF 0 Z<|Vl (.bool p1.send) Z (Rb2 Z)<|Et Z<|Ea Z<|fb<|Pu2<|Pu2<|Pu2<|Sd<|⟨_, by exact R5, p1.send, rfl, rfl, rfl, H⟩
    ·intro I
     obtain ⟨I, H⟩ := If I H
     exact Ez Z<|Ez Z<|Ef Z<|Ea Z<|fb<|Pu2<|Pu2<|Pu2<|Sd<|⟨_, by exact R5, false, rfl, rfl, rfl, H⟩
   rintro _ _ _ - ⟨ag, rfl, rfl, rfl, H⟩
   unfold sU at H
   refine fm rfl ?_ ?_
   ·intro W
    have H := ift W H
    refine fc ?_
    obtain ⟨ap, ax, H⟩ := bnd H
    rcases gR ap with i | i <;> revert i
    ·intro J
     have H := ift J H
     refine fq _ rfl (Ic Mb0 (Ic Mb1 (Ic Mb2 In0)))<|Jm 0 Z<|JL 1 5 (fe p2) Z (Rb1 Z)<|?_
     refine Ao 2 Z ?_
     refine Ek Tryz.call111 Z (iR p2 false false ap ax _ _ ) ?_
     rintro _ _ _ - ⟨rfl, rfl, rfl⟩
     refine ⟨(Ic Mb0 (Ic Mb1 (Ic Mb2 In0))), ?_⟩
     refine Jm 3 Z<|Aw.known (d := 66) rfl (J)<|BF 4 2 Z<|Bl 5 (.bool a.closed) Z (Rb0 Z)<|Jt 6 Z<|Ja 7 Z<|Ja 8 Z<|Ad<|fx<|?_
     obtain ⟨s, t⟩ := hY H
     subst e f
     refine ⟨(.inl rfl), [(sv b), (.bool a.closed)], ⟨(sv b), _, rfl, rfl, ⟨(.bool a.closed), _, rfl, rfl, rfl⟩⟩, ?_⟩
     exact Re0<|Re0<|Re0<|Sd<|⟨b, rfl, rfl, w⟩
    ·intro J
     have H := fX (btf J) H
     refine fq _ rfl (Ic Mb0 (Ic Mb1 (Ic Mb2 In0)))<|Jm 0 Z<|JL 1 5 (fe p2) Z (Rb1 Z)<|?_
     refine Ao 2 Z ?_
     refine Ek Tryz.call111 Z (iR p2 false false ap ax _ _ ) ?_
     rintro _ _ _ - ⟨rfl, rfl, rfl⟩
     refine ⟨(Ic Mb0 (Ic Mb1 (Ic Mb2 In0))), ?_⟩
     refine Jm 3 Z<|Aw.known (d := 66) rfl (J)<|Jz 4 Z<|Jz 5 Z<|Jf 6 Z<|Ja 7 Z<|Ja 8 Z<|Ad<|fx<|?_
     obtain ⟨s, t⟩ := hY H
     subst e f
     refine ⟨(.inl rfl), [(sv b), (.bool false)], ⟨(sv b), _, rfl, rfl, ⟨(.bool false), _, rfl, rfl, rfl⟩⟩, ?_⟩
     exact Re0<|Re0<|Re0<|Sd<|⟨b, rfl, rfl, w⟩
   ·intro W
    have H := fX (btf W) H
    refine fz (fun j h g => ∃ (ah : Bool), [(0, (sv b)), (4, (Vp n)), (5, (Vp r)), (8, (Vp m)), (70, (.bool ah))] = j ∧ K = h ∧ (.blk m 104 (fy a c)) :: (.blk r 38 (fe p2)) :: (.blk n 108 (fk p1)) :: G = g ∧ pL p0 a p2 p1 ah = some (e, f)) ?_ ?_
    ·refine fa<|EF 0 Z<|El (Vi p2.kind) Z (Rb1 Z)<|Ec Z<|Em Z<|?_
     refine Ee Z ?_ ?_
     ·intro L
      obtain ⟨L, H⟩ := It L H
      refine VF 0 Z<|Vl (.bool p1.send) Z (Rb2 Z)<|Vq Z (gi rfl)<|Et Z<|Em Z<|?_
      refine Ee Z ?_ ?_
      ·intro z
       have z := ix z
       have H := fX (btf z) H
       exact VF 3 Z<|Vl (.bool p2.ok) Z (Rb1 Z)<|Et Z<|Ea Z<|fb<|Pu2<|Pu2<|Pu2<|Sd<|⟨_, by exact R5, p2.ok, rfl, rfl, rfl, H⟩
      ·intro z
       have z := iw z
       have H := ift z H
       exact Ez Z<|Ez Z<|Ef Z<|Ea Z<|fb<|Pu2<|Pu2<|Pu2<|Sd<|⟨_, by exact R5, false, rfl, rfl, rfl, H⟩
     ·intro L
      obtain ⟨L, H⟩ := If L H
      exact Ez Z<|Ez Z<|Ez Z<|Ef Z<|Em Z<|Ez Z<|Ez Z<|Ef Z<|Ea Z<|fb<|Pu2<|Pu2<|Pu2<|Sd<|⟨_, by exact R5, false, rfl, rfl, rfl, H⟩
    rintro _ _ _ - ⟨ah, rfl, rfl, rfl, H⟩
    unfold pL at H
    refine fm rfl ?_ ?_
    ·intro X
     have H := ift X H
     refine fc ?_
     refine fz (fun j h g => ∃ (ai : Bool), [(0, (sv b)), (4, (Vp n)), (8, (Vp m)), (100, (.bool ai))] = j ∧ K = h ∧ (.blk m 104 (fy a c)) :: (.blk n 108 (fk p1)) :: G = g ∧ oQ p0 a p1 ai = some (e, f)) ?_ ?_
     ·obtain ⟨R, ad, H⟩ := bnd H
      rcases gR (!(R)) with i | i <;> revert i
      ·intro p
       have p := ix p
       have H := fX (btf p) H
       refine fq _ rfl (Ic Mb0 (Ic Mb1 (Ic Mb2 In0)))<|JL 0 5 (fe p2) Z (Rb1 Z)<|?_
       refine Ao 1 Z ?_
       refine Ek Tryz.call111 Z (iR p2 true false R ad _ _ ) ?_
       rintro _ _ _ - ⟨rfl, rfl, rfl⟩
       refine ⟨(Ic Mb0 (Ic Mb1 (Ic Mb2 In0))), ?_⟩
       exact Jq 2 Z (gi rfl)<|Jm 3 Z<|Aw.known (d := 86) rfl (lK (p))<|Jz 4 Z<|Jz 5 Z<|Jz 6 Z<|Jz 7 Z<|Jt 8 Z<|Jm 9 Z<|Jz 10 Z<|Jz 11 Z<|Jz 12 Z<|Jz 13 Z<|Jz 14 Z<|Jz 15 Z<|Jz 16 Z<|Jt 17 Z<|Ad<|Pu2<|Pu1<|Re2<|Sd<|⟨_, by exact R4, true, rfl, rfl, rfl, H⟩
      ·intro p
       have p := iw p
       have H := ift p H
       rcases gR (dcd ((a.buffer.length : Int) = 0)) with i | i <;> revert i
       ·intro A
        obtain ⟨A, H⟩ := It A H
        refine fq _ rfl (Ic Mb0 (Ic Mb1 (Ic Mb2 In0)))<|JL 0 5 (fe p2) Z (Rb1 Z)<|?_
        refine Ao 1 Z ?_
        refine Ek Tryz.call111 Z (iR p2 true false R ad _ _ ) ?_
        rintro _ _ _ - ⟨rfl, rfl, rfl⟩
        refine ⟨(Ic Mb0 (Ic Mb1 (Ic Mb2 In0))), ?_⟩
        exact Jq 2 Z (gi rfl)<|Jm 3 Z<|Aw.known (d := 86) rfl (lJ (p))<|BF 4 1 Z<|Bl 5 (sv c) Z (Rb0 Z)<|Bq 6 Z (gg (T := Ty.u64) o rfl rfl)<|Bc 7 Z<|Jf 8 Z<|Jm 9 Z<|Aw.known (d := 92) rfl (hZ A)<|Jz 10 Z<|Jz 11 Z<|Jz 12 Z<|Jz 13 Z<|Jz 14 Z<|Jz 15 Z<|Jz 16 Z<|Jt 17 Z<|Ad<|Pu2<|Pu1<|Re2<|Sd ⟨_, by exact R4, true, rfl, rfl, rfl, H⟩
       ·intro A
        obtain ⟨A, H⟩ := If A H
        obtain ⟨aB, ay, H⟩ := bnd H
        refine fq _ rfl (Ic Mb0 (Ic Mb1 (Ic Mb2 In0)))<|JL 0 5 (fe p2) Z (Rb1 Z)<|?_
        refine Ao 1 Z ?_
        refine Ek Tryz.call111 Z (iR p2 true false R ad _ _ ) ?_
        rintro _ _ _ - ⟨rfl, rfl, rfl⟩
        refine ⟨(Ic Mb0 (Ic Mb1 (Ic Mb2 In0))), ?_⟩
        refine Jq 2 Z (gi rfl)<|Jm 3 Z<|Aw.known (d := 86) rfl (lJ (p))<|BF 4 1 Z<|Bl 5 (sv c) Z (Rb0 Z)<|Bq 6 Z (gg (T := Ty.u64) o rfl rfl)<|Bc 7 Z<|Jf 8 Z<|Jm 9 Z<|Aw.known (d := 92) rfl (iq A)<|BF 10 1 Z<|Bl 11 (sv c) Z (Rb0 Z)<|?_
        obtain ⟨_, rfl, aH⟩ := Slr.at o ay
        exact Bq 12 Z (Qi (T := Ty.u64) o ay Z)<|Bl 13 (.int .u64 aB) Z (Rdc.k aH rfl)<|BF 14 2 Z<|Bl 15 (.int .u64 p2.value) Z (Rb1 Z)<|Bc 16 Z<|Jf 17 Z<|Ad<|Pu2<|Pu1<|Re2<|Sd<|⟨_, by exact R4, (!(dcd (aB = p2.value))), rfl, rfl, rfl, H⟩
     rintro _ _ _ - ⟨ai, rfl, rfl, rfl, H⟩
     unfold oQ at H
     refine fm rfl ?_ ?_
     ·intro Y
      have H := ift Y H
      refine fc<|fa<|Ea Z<|Ea Z<|fb<|fx<|?_
      obtain ⟨s, t⟩ := hY H
      subst e f
      refine ⟨(.inl rfl), [(sv fB), (.bool false)], ⟨(sv fB), _, rfl, rfl, ⟨(.bool false), _, rfl, rfl, rfl⟩⟩, ?_⟩
      exact Re0<|Re0<|Sd<|⟨fB, rfl, rfl, (Slr.nil fF _)⟩
     ·intro Y
      have H := fX (btf Y) H
      refine ft<|fc<|fa<|EF 1 Z<|El (sv c) Z (Rb0 Z)<|?_
      obtain ⟨aq, az, H⟩ := bnd H
      have aV := Slr.cutL o az
      refine Eq Z (lP (T := Ty.u64) o az rfl rfl rfl rfl rfl)<|EF 1 Z<|?_
      refine ff rfl (So [(sv (jz c 1 ((1 : Int).toNat) a.buffer.length))] (fy (fJ.mk a.capacity aq a.closed) (jz c 1 ((1 : Int).toNat) a.buffer.length)) Z .here Z ?_)
      refine fb<|fc<|fa<|Em Z<|EF 1 Z<|El (Vi p1.channel) Z (Rb1 Z)<|EL 3 (fy (fJ.mk a.capacity aq a.closed) (jz c 1 ((1 : Int).toNat) a.buffer.length)) Z (Rb0 Z)<|?_
      obtain ⟨a5, a1, H⟩ := bnd H
      refine ff rfl (Ek Tryz.call112 Z (xl p0 b p1.channel (fJ.mk a.capacity aq a.closed) (jz c 1 ((1 : Int).toNat) a.buffer.length) a5 a1 _ _ w aV) ?_)
      rintro _ _ _ - ⟨ao, bm, rfl, rfl, rfl, aW⟩
      refine Ea Z<|Ea Z<|fb<|fx<|?_
      obtain ⟨s, t⟩ := hY H
      subst e f
      refine ⟨(.inl rfl), [(sv ao), (.bool true)], ⟨(sv ao), _, rfl, rfl, ⟨(.bool true), _, rfl, rfl, rfl⟩⟩, ?_⟩
      refine Shift.settle (T := fF) .here aW rfl ?_
      intro bd bj aX
      exact Re0<|Re0<|Re0<|Sd<|⟨ao, rfl, rfl, aX⟩
    ·intro X
     have H := fX (btf X) H
     refine fz (fun j h g => ∃ (aj : Bool), [(0, (sv b)), (5, (Vp r)), (8, (Vp m)), (110, (.bool aj))] = j ∧ K = h ∧ (.blk m 104 (fy a c)) :: (.blk r 38 (fe p2)) :: G = g ∧ sT p0 a p2 aj = some (e, f)) ?_ ?_
     ·refine fa<|EF 0 Z<|El (Vi p2.kind) Z (Rb1 Z)<|Ec Z<|Em Z<|?_
      refine Ee Z ?_ ?_
      ·intro M
       obtain ⟨M, H⟩ := It M H
       exact VF 0 Z<|Vl (.bool p1.send) Z (Rb2 Z)<|Vq Z (gi rfl)<|Et Z<|Ea Z<|fb<|Pu1<|Pu1<|Re2<|Sd<|⟨_, by exact R4, (!(p1.send)), rfl, rfl, rfl, H⟩
      ·intro M
       obtain ⟨M, H⟩ := If M H
       exact Ez Z<|Ez Z<|Ez Z<|Ef Z<|Ea Z<|fb<|Pu1<|Pu1<|Re2<|Sd<|⟨_, by exact R4, false, rfl, rfl, rfl, H⟩
     rintro _ _ _ - ⟨aj, rfl, rfl, rfl, H⟩
     unfold sT at H
     refine fm rfl ?_ ?_
     ·intro aa
      have H := ift aa H
      refine fz (fun j h g => ∃ (O : Bool), [(6, (sv b)), (7, (.bool O))] = j ∧ K = h ∧ G = g ∧ sS p0 O = some (e, f)) ?_ ?_
      ·obtain ⟨P, Q, H⟩ := bnd H
       rcases gR P with i | i <;> revert i
       ·intro B
        have H := ift B H
        rcases gR (dcd (p2.value = 0)) with i | i <;> revert i
        ·intro u
         obtain ⟨u, H⟩ := It u H
         rcases gR a.closed with i | i <;> revert i
         ·intro N
          have H := ift N H
          refine fq _ rfl (Ic Mb0 (Ic Mb1 In0))<|Jm 0 Z<|JL 1 5 (fe p2) Z (Rb1 Z)<|?_
          refine Ao 2 Z ?_
          refine Ek Tryz.call111 Z (iR p2 true false P Q _ _ ) ?_
          rintro _ _ _ - ⟨rfl, rfl, rfl⟩
          refine ⟨(Ic Mb0 (Ic Mb1 In0)), ?_⟩
          refine Jm 3 Z<|Aw.known (d := 122) rfl (B)<|BF 4 2 Z<|Bl 5 (.int .u64 p2.value) Z (Rb1 Z)<|Bc 6 Z<|Jt 7 Z<|Jm 8 Z<|Aw.known (d := 127) rfl (hZ u)<|BF 9 2 Z<|Bl 10 (.bool a.closed) Z (Rb0 Z)<|Jt 11 Z<|Jm 12 Z<|Aw.known (d := 131) rfl (N)<|BF 13 1 Z<|Bl 14 (sv c) Z (Rb0 Z)<|Bq 15 Z (gg (T := Ty.u64) o rfl rfl)<|Bc 16 Z<|Jt 17 Z<|Ja 18 Z<|Ja 19 Z<|Ad<|Re0<|?_
          exact Re0<|Sd<|⟨_, by exact R2, (dcd ((a.buffer.length : Int) = 0)), rfl, rfl, rfl, H⟩
         ·intro N
          have H := fX (btf N) H
          refine fq _ rfl (Ic Mb0 (Ic Mb1 In0))<|Jm 0 Z<|JL 1 5 (fe p2) Z (Rb1 Z)<|?_
          refine Ao 2 Z ?_
          refine Ek Tryz.call111 Z (iR p2 true false P Q _ _ ) ?_
          rintro _ _ _ - ⟨rfl, rfl, rfl⟩
          refine ⟨(Ic Mb0 (Ic Mb1 In0)), ?_⟩
          refine Jm 3 Z<|Aw.known (d := 122) rfl (B)<|BF 4 2 Z<|Bl 5 (.int .u64 p2.value) Z (Rb1 Z)<|Bc 6 Z<|Jt 7 Z<|Jm 8 Z<|Aw.known (d := 127) rfl (hZ u)<|BF 9 2 Z<|Bl 10 (.bool a.closed) Z (Rb0 Z)<|Jt 11 Z<|Jm 12 Z<|Aw.known (d := 131) rfl (N)<|Jz 13 Z<|Jz 14 Z<|Jz 15 Z<|Jz 16 Z<|Jf 17 Z<|Ja 18 Z<|Ja 19 Z<|Ad<|Re0<|?_
          exact Re0<|Sd<|⟨_, by exact R2, false, rfl, rfl, rfl, H⟩
        ·intro u
         obtain ⟨u, H⟩ := If u H
         refine fq _ rfl (Ic Mb0 (Ic Mb1 In0))<|Jm 0 Z<|JL 1 5 (fe p2) Z (Rb1 Z)<|?_
         refine Ao 2 Z ?_
         refine Ek Tryz.call111 Z (iR p2 true false P Q _ _ ) ?_
         rintro _ _ _ - ⟨rfl, rfl, rfl⟩
         refine ⟨(Ic Mb0 (Ic Mb1 In0)), ?_⟩
         exact Jm 3 Z<|Aw.known (d := 122) rfl (B)<|BF 4 2 Z<|Bl 5 (.int .u64 p2.value) Z (Rb1 Z)<|Bc 6 Z<|Jt 7 Z<|Jm 8 Z<|Aw.known (d := 127) rfl (iq u)<|Jz 9 Z<|Jz 10 Z<|Jf 11 Z<|Jm 12 Z<|Jz 13 Z<|Jz 14 Z<|Jz 15 Z<|Jz 16 Z<|Jf 17 Z<|Ja 18 Z<|Ja 19 Z<|Ad<|Re0<|Re0<|Sd ⟨_, by exact R2, false, rfl, rfl, rfl, H⟩
       ·intro B
        have H := fX (btf B) H
        refine fq _ rfl (Ic Mb0 (Ic Mb1 In0))<|Jm 0 Z<|JL 1 5 (fe p2) Z (Rb1 Z)<|?_
        refine Ao 2 Z ?_
        refine Ek Tryz.call111 Z (iR p2 true false P Q _ _ ) ?_
        rintro _ _ _ - ⟨rfl, rfl, rfl⟩
        refine ⟨(Ic Mb0 (Ic Mb1 In0)), ?_⟩
        exact Jm 3 Z<|Aw.known (d := 122) rfl (B)<|Jz 4 Z<|Jz 5 Z<|Jz 6 Z<|Jf 7 Z<|Jm 8 Z<|Jz 9 Z<|Jz 10 Z<|Jf 11 Z<|Jm 12 Z<|Jz 13 Z<|Jz 14 Z<|Jz 15 Z<|Jz 16 Z<|Jf 17 Z<|Ja 18 Z<|Ja 19 Z<|Ad<|Re0<|Re0<|Sd<|⟨_, by exact R2, false, rfl, rfl, rfl, H⟩
      rintro _ _ _ - ⟨O, rfl, rfl, rfl, H⟩
      unfold sS at H
      refine fx ?_
      obtain ⟨s, t⟩ := hY H
      subst e f
      refine ⟨(.inl rfl), [(sv b), (.bool O)], ⟨(sv b), _, rfl, rfl, ⟨(.bool O), _, rfl, rfl, rfl⟩⟩, ?_⟩
      exact Sd ⟨b, rfl, rfl, w⟩
     ·intro aa
      have H := fX (btf aa) H
      refine ft<|fc<|fa<|Ea Z<|Ea Z<|fb<|fx<|?_
      obtain ⟨s, t⟩ := hY H
      subst e f
      refine ⟨(.inl rfl), [(sv fB), (.bool false)], ⟨(sv fB), _, rfl, rfl, ⟨(.bool false), _, rfl, rfl, rfl⟩⟩, ?_⟩
      exact Re0<|Re0<|Sd<|⟨fB, rfl, rfl, (Slr.nil fF _)⟩
theorem C6 (p0 : ad0) (g : SV) (p1 : Op) (e : SV) (f : SV) (a : Bool) (H : rW p0 p1 = some a) (K : Kp) (G : List Ent) (u : Slr fF K (sv g) p0) (w : Slr fW K (sv e) p1.cases) (x : Slr Ty.i64 K (sv f) p1.draws) :
  Fc Tryz.prog 113 #[(sv g), (.agg (fh p1 e f).toArray)] K (G) (fun v h b => v = (.bool a) ∧ G = b) := by
 refine fN Tryz.func113 rfl Tryz.ntmps113 Tryz.results113 rfl ?_
 unfold rW at H
 refine fc<|fa<|?_
 refine ff rfl (fR (cs := (fh p1 e f)) rfl rfl rfl (fun E => ?_))
 refine Ea Z<|fb<|fc<|fa<|EL 7 (fh p1 e f) Z (Rb0 Z)<|?_
 obtain ⟨o, A, H⟩ := bnd H
 refine ff rfl (Ek Tryz.call44 Z (lu p1 e f o A _ _ w x) ?_)
 rintro _ p _ r ⟨B, rfl, rfl, l⟩
 refine Ea Z<|fb<|?_
 refine fz (fun i h b => [] = i ∧ G = b ∧ wa = some a) ?_ ?_
 ·refine fc<|fa<|Ea Z<|fb<|fA<|?_
  refine f7 (fun n101 i h b => ∃ (d : Int), [(0, (sv g)), (5, (sv B)), (6, (Vi d))] = i ∧ p = h ∧ G = b ∧ lp1 (wb p0 o) n101 d = some a) BIG ?_ ?_
  ·exact Re0<|Sd<|⟨_, by exact R3, 0, rfl, rfl, rfl, H⟩
  rintro n101 _ _ _ - ⟨d, rfl, rfl, rfl, H⟩
  obtain ⟨J, I, rfl, t, H⟩ := lx H
  unfold wb at H
  refine fc<|fc<|fa<|Em Z<|Em Z<|Eq Z (gg (T := fW) l rfl rfl)<|Ec Z<|fb<|?_
  refine fm rfl ?_ ?_
  ·intro c
   obtain ⟨c, H⟩ := It c H
   refine ft<|fc<|fA<|fc<|fa<|Em Z<|Em Z<|Em Z<|?_
   obtain ⟨n, m, H⟩ := bnd H
   obtain ⟨_, rfl, s⟩ := Slr.at l m
   refine Eq Z (Qi (T := fW) l m Z)<|EL 3 (fk n) Z (Rdc.k s rfl)<|?_
   obtain ⟨C, z, H⟩ := bnd H
   have y := u.mono r
   refine ff rfl (Ek Tryz.call79 Z (Aa p0 g n C z _ _ y) ?_)
   rintro _ _ _ - ⟨rfl, rfl, rfl⟩
   refine fb ?_
   refine fm rfl ?_ ?_
   ·intro j
    have H := ift j H
    refine fc<|fa<|Ea Z<|fb<|fx<|?_
    obtain q := gn H
    subst a
    refine ⟨(.inl rfl), [(.bool false)], ⟨(.bool false), _, rfl, rfl, rfl⟩, ?_⟩
    exact Sd ⟨rfl, rfl⟩
   ·intro j
    have H := fX (btf j) H
    exact ft<|fa<|Em Z<|Er (wI (d + 1)) Z<|Ea Z<|fb<|Sd<|⟨_, by exact R3, _, Nat.lt_succ_self _, (wI (d + 1)), rfl, rfl, rfl, (t ▸ H)⟩
  ·intro c
   obtain ⟨c, H⟩ := If c H
   exact f9<|Sd<|⟨[], trivial, rfl, rfl, H⟩
 rintro _ D _ F ⟨rfl, rfl, H⟩
 unfold wa at H
 refine fc<|fa<|Ea Z<|fb<|fx<|?_
 obtain q := gn H
 subst a
 refine ⟨(.inl rfl), [(.bool true)], ⟨(.bool true), _, rfl, rfl, rfl⟩, ?_⟩
 exact Sd ⟨rfl, rfl⟩
end Go.Hx
namespace Go.Hx
open Go Go.Proofs
set_option maxRecDepth 10000
set_option maxHeartbeats 1000000
theorem Ds (p0 : ad0) (a : SV) (p1 : Op) (j : SV) (l : SV) (p2 : Result) (e : ad0) (f : Bool) (H : wc p0 p1 p2 = some (e, f)) (K : Kp) (G : List Ent) (c : Slr fF K (sv a) p0) (aq : Slr fW K (sv j) p1.cases) (ar : Slr Ty.i64 K (sv l) p1.draws) :
  Fc Tryz.prog 85 #[(sv a), (.agg (fh p1 j l).toArray), (.agg (fe p2).toArray)] K (G) (fun v h g => ∃ (aN : SV), v = (.tuple #[(sv aN), (.bool f)]) ∧ G = g ∧ Slr fF h (sv aN) e) := by
 refine fN Tryz.func85 rfl Tryz.ntmps85 Tryz.results85 rfl ?_
 unfold wc at H
 refine fc<|fa<|?_
 refine ff rfl (fR (cs := (fh p1 j l)) rfl rfl rfl (fun s => ?_))
 refine ff rfl (fR (cs := (fe p2)) rfl rfl rfl (fun D => ?_))
 refine Ea Z<|Ea Z<|fb<|?_
 refine fz (fun i h g => ∃ (ab : Bool), [(0, (sv a)), (4, (Vp s)), (5, (Vp D)), (8, (.bool ab))] = i ∧ K = h ∧ (.blk D 38 (fe p2)) :: (.blk s 51 (fh p1 j l)) :: G = g ∧ sZ p0 p2 p1 ab = some (e, f)) ?_ ?_
 ·refine fa<|EF 0 Z<|El (Vi p1.kind) Z (Rb1 Z)<|Ec Z<|Em Z<|?_
  refine Ee Z ?_ ?_
  ·intro F
   obtain ⟨F, H⟩ := It F H
   exact Ez Z<|Ez Z<|Ez Z<|Et Z<|Em Z<|Ez Z<|Ez Z<|Ez Z<|Et Z<|Ea Z<|fb<|Pu1<|Pu1<|Sd<|⟨_, by exact R4, true, rfl, rfl, rfl, H⟩
  ·intro F
   obtain ⟨F, H⟩ := If F H
   refine VF 0 Z<|Vl (Vi p1.kind) Z (Rb1 Z)<|Vc Z<|Ef Z<|Em Z<|?_
   refine Ee Z ?_ ?_
   ·intro I
    obtain ⟨I, H⟩ := It I H
    exact Ez Z<|Ez Z<|Ez Z<|Et Z<|Ea Z<|fb<|Pu1<|Pu1<|Sd<|⟨_, by exact R4, true, rfl, rfl, rfl, H⟩
   ·intro I
    obtain ⟨I, H⟩ := If I H
    exact VF 0 Z<|Vl (Vi p1.kind) Z (Rb1 Z)<|Vc Z<|Ef Z<|Ea Z<|fb<|Pu1<|Pu1<|Sd<|⟨_, by exact R4, (dcd (p1.kind = 4)), rfl, rfl, rfl, H⟩
 rintro _ _ _ - ⟨ab, rfl, rfl, rfl, H⟩
 unfold sZ at H
 refine fc<|fc<|fa<|EF 0 Z<|El (Vi p2.kind) Z (Rb0 Z)<|fb<|fA<|?_
 refine fz (fun i h g => ∃ (av : Bool), [(0, (sv a)), (4, (Vp s)), (5, (Vp D)), (8, (.bool ab)), (29, (Vi p2.kind)), (30, (.bool av))] = i ∧ K = h ∧ (.blk D 38 (fe p2)) :: (.blk s 51 (fh p1 j l)) :: G = g ∧ oS p0 ab p2 p1 av = some (e, f)) ?_ ?_
 ·refine fc<|fa<|Ec Z<|Ea Z<|fb<|?_
  refine fm rfl ?_ ?_
  ·intro J
   obtain ⟨J, H⟩ := It J H
   exact ft<|Pu1<|Pu1<|Sd<|⟨_, by exact R6, (dcd (p2.kind = 1)), rfl, rfl, rfl, H⟩
  ·intro J
   obtain ⟨J, H⟩ := If J H
   exact fa<|Ec Z<|Ea Z<|fb<|Pu1<|Pu1<|Sd<|⟨_, by exact R6, (dcd (p2.kind = 2)), rfl, rfl, rfl, H⟩
 rintro _ _ _ - ⟨av, rfl, rfl, rfl, H⟩
 unfold oS at H
 refine fm rfl ?_ ?_
 ·intro ak
  have H := ift ak H
  refine fc<|fa<|EL 7 (fh p1 j l) Z (Rb1 Z)<|EL 5 (fe p2) Z (Rb0 Z)<|?_
  obtain ⟨ah, bn, bb, H⟩ := ir H
  refine ff rfl (Ek Tryz.call109 Z (qq p1 j l p2 ah bn bb _ _ aq ar) ?_)
  rintro _ _ _ - ⟨rfl, rfl, rfl⟩
  refine Em Z<|Ex Z<|Ex Z<|?_
  refine ff rfl (fC (cs := (fk (Case.mk false 0 0))) rfl rfl rfl rfl (fun bD => ?_))
  refine ff rfl (Sa (fk ah) Z .here Z ?_)
  refine Ea Z<|fb<|fc<|fc<|fa<|Em Z<|Eq Z (gi rfl)<|fb<|?_
  refine fm rfl ?_ ?_
  ·intro x
   have x := ix x
   have H := fX (btf x) H
   refine fc<|fa<|Ea Z<|Ea Z<|fb<|fx<|?_
   obtain ⟨n, o⟩ := hY H
   subst e f
   refine ⟨(.inl rfl), [(sv fB), (.bool false)], ⟨(sv fB), _, rfl, rfl, ⟨(.bool false), _, rfl, rfl, rfl⟩⟩, ?_⟩
   exact Re0<|Re0<|Re0<|Sd<|⟨fB, rfl, rfl, (Slr.nil fF _)⟩
  ·intro x
   have x := iw x
   have H := ift x H
   refine ft<|fc<|fa<|Em Z<|EL 3 (fk ah) Z (Rb0 Z)<|EL 5 (fe p2) Z (Rb1 Z)<|?_
   obtain ⟨bo, aA, bc, H⟩ := ir H
   refine ff rfl (Ek Tryz.call110 Z (Af p0 a ah p2 bo aA bc _ _ c) ?_)
   rintro _ bx _ bG ⟨ax, rfl, rfl, a4⟩
   refine Ex Z<|Ex Z<|Ea Z<|Ea Z<|fb<|fx<|?_
   obtain ⟨n, o⟩ := hY H
   subst e f
   refine ⟨(.inl rfl), [(sv ax), (.bool aA)], ⟨(sv ax), _, rfl, rfl, ⟨(.bool aA), _, rfl, rfl, rfl⟩⟩, ?_⟩
   exact Re0<|Re0<|Re0<|Sd<|⟨ax, rfl, rfl, a4⟩
 ·intro ak
  have H := fX (btf ak) H
  refine fc<|fa<|Ec Z<|Ea Z<|fb<|?_
  refine fm rfl ?_ ?_
  ·intro L
   obtain ⟨L, H⟩ := It L H
   refine fc<|fc<|fa<|EF 0 Z<|El (Vi p1.kind) Z (Rb1 Z)<|Ec Z<|fb<|?_
   refine fm rfl ?_ ?_
   ·intro M
    obtain ⟨M, H⟩ := It M H
    refine fz (fun i h g => ∃ (ac : Bool), [(6, (sv a)), (7, (.bool ac))] = i ∧ K = h ∧ G = g ∧ sX p0 ac = some (e, f)) ?_ ?_
    ·rcases gR (dcd (p2.case_ = (-1))) with b | b <;> revert b
     ·intro p
      obtain ⟨p, H⟩ := It p H
      obtain ⟨ai, au, H⟩ := bnd H
      rcases gR ai with b | b <;> revert b
      ·intro E
       have H := ift E H
       obtain ⟨aB, aF, H⟩ := bnd H
       rcases gR (!(aB)) with b | b <;> revert b
       ·intro q
        have q := ix q
        have H := fX (btf q) H
        refine fq _ rfl (Ic Mb0 (Ic Mb1 In0))<|Jm 0 Z<|JF 1 1 Z<|Jl 2 (Vi p2.case_) Z (Rb0 Z)<|Jc 3 Z<|Jm 4 Z<|Aw.known (d := 56) rfl (hZ p)<|BL 5 5 (fe p2) Z (Rb0 Z)<|?_
        refine gB 6 (by kernel_rfl) (jJ rfl rfl rfl rfl rfl ?_)
        refine Ek Tryz.call111 Z (iR p2 false false ai au _ _ ) ?_
        rintro _ _ _ - ⟨rfl, rfl, rfl⟩
        refine ⟨(Ic Mb0 (Ic Mb1 In0)), ?_⟩
        refine Jt 7 Z<|Jm 8 Z<|Aw.known (d := 60) rfl (E)<|Bm 9 Z<|BF 10 2 Z<|Bl 11 (Vi p1.channel) Z (Rb1 Z)<|?_
        refine gB 12 (by kernel_rfl) (jJ rfl rfl rfl rfl rfl ?_)
        refine Ek Tryz.call107 Z (lS p0 a p1.channel aB aF _ _ c) ?_
        rintro _ _ _ - ⟨rfl, rfl, rfl⟩
        refine ⟨(Ic Mb0 (Ic Mb1 In0)), ?_⟩
        exact Bq 13 Z (gi rfl)<|Bm 14 Z<|Aw.known (d := 66) rfl (lK (q))<|Jz 15 Z<|Jz 16 Z<|Jz 17 Z<|Jz 18 Z<|Jz 19 Z<|Jz 20 Z<|Bt 21 Z<|Jt 22 Z<|Ja 23 Z<|Ja 24 Z<|Ad<|Re0<|Re0<|Sd<|⟨_, by exact R2, true, rfl, rfl, rfl, H⟩
       ·intro q
        have q := iw q
        have H := ift q H
        obtain ⟨aO, aG, H⟩ := bnd H
        refine fq _ rfl (Ic Mb0 (Ic Mb1 In0))<|Jm 0 Z<|JF 1 1 Z<|Jl 2 (Vi p2.case_) Z (Rb0 Z)<|Jc 3 Z<|Jm 4 Z<|Aw.known (d := 56) rfl (hZ p)<|BL 5 5 (fe p2) Z (Rb0 Z)<|?_
        refine gB 6 (by kernel_rfl) (jJ rfl rfl rfl rfl rfl ?_)
        refine Ek Tryz.call111 Z (iR p2 false false ai au _ _ ) ?_
        rintro _ _ _ - ⟨rfl, rfl, rfl⟩
        refine ⟨(Ic Mb0 (Ic Mb1 In0)), ?_⟩
        refine Jt 7 Z<|Jm 8 Z<|Aw.known (d := 60) rfl (E)<|Bm 9 Z<|BF 10 2 Z<|Bl 11 (Vi p1.channel) Z (Rb1 Z)<|?_
        refine gB 12 (by kernel_rfl) (jJ rfl rfl rfl rfl rfl ?_)
        refine Ek Tryz.call107 Z (lS p0 a p1.channel aB aF _ _ c) ?_
        rintro _ _ _ - ⟨rfl, rfl, rfl⟩
        refine ⟨(Ic Mb0 (Ic Mb1 In0)), ?_⟩
        refine Bq 13 Z (gi rfl)<|Bm 14 Z<|Aw.known (d := 66) rfl (lJ (q))<|Bm 15 Z<|BF 16 2 Z<|Bl 17 (Vi p1.channel) Z (Rb1 Z)<|?_
        obtain ⟨bN, aZ, aU⟩ := Slr.at c aG
        obtain ⟨bT, rfl, bK⟩ := aZ
        exact Bq 18 Z (Qi (T := fF) c aG Z)<|BF 19 2 Z<|Bl 20 (.bool aO.closed) Z (Rdc.k aU rfl)<|Bf 21 Z<|Jt 22 Z<|Ja 23 Z<|Ja 24 Z<|Ad<|Re0<|Re0<|Sd<|⟨_, by exact R2, aO.closed, rfl, rfl, rfl, H⟩
      ·intro E
       have H := fX (btf E) H
       refine fq _ rfl (Ic Mb0 (Ic Mb1 In0))<|Jm 0 Z<|JF 1 1 Z<|Jl 2 (Vi p2.case_) Z (Rb0 Z)<|Jc 3 Z<|Jm 4 Z<|Aw.known (d := 56) rfl (hZ p)<|BL 5 5 (fe p2) Z (Rb0 Z)<|?_
       refine gB 6 (by kernel_rfl) (jJ rfl rfl rfl rfl rfl ?_)
       refine Ek Tryz.call111 Z (iR p2 false false ai au _ _ ) ?_
       rintro _ _ _ - ⟨rfl, rfl, rfl⟩
       refine ⟨(Ic Mb0 (Ic Mb1 In0)), ?_⟩
       exact Jt 7 Z<|Jm 8 Z<|Aw.known (d := 60) rfl (E)<|Jz 9 Z<|Jz 10 Z<|Jz 11 Z<|Jz 12 Z<|Jz 13 Z<|Jz 14 Z<|gX 15 rfl (by kernel_rfl) (by kernel_rfl) (by kernel_rfl) rfl rfl rfl rfl rfl<|gX 16 rfl (by kernel_rfl) (by kernel_rfl) (by kernel_rfl) rfl rfl rfl rfl rfl<|gX 17 rfl (by kernel_rfl) (by kernel_rfl) (by kernel_rfl) rfl rfl rfl rfl rfl<|gX 18 rfl (by kernel_rfl) (by kernel_rfl) (by kernel_rfl) rfl rfl rfl rfl rfl<|gX 19 rfl (by kernel_rfl) (by kernel_rfl) (by kernel_rfl) rfl rfl rfl rfl rfl<|gX 20 rfl (by kernel_rfl) (by kernel_rfl) (by kernel_rfl) rfl rfl rfl rfl rfl<|Jz 21 Z<|Jf 22 Z<|Ja 23 Z<|Ja 24 Z<|Ad<|Re0<|Re0<|Sd ⟨_, by exact R2, false, rfl, rfl, rfl, H⟩
     ·intro p
      obtain ⟨p, H⟩ := If p H
      refine fq _ rfl (Ic Mb0 (Ic Mb1 In0))<|Jm 0 Z<|JF 1 1 Z<|Jl 2 (Vi p2.case_) Z (Rb0 Z)<|Jc 3 Z<|Jm 4 Z<|Aw.known (d := 56) rfl (iq p)<|Jz 5 Z<|Jz 6 Z<|Jf 7 Z<|Jm 8 Z<|Jz 9 Z<|Jz 10 Z<|Jz 11 Z<|Jz 12 Z<|Jz 13 Z<|Jz 14 Z<|gX 15 rfl (by kernel_rfl) (by kernel_rfl) (by kernel_rfl) rfl rfl rfl rfl rfl<|gX 16 rfl (by kernel_rfl) (by kernel_rfl) (by kernel_rfl) rfl rfl rfl rfl rfl<|gX 17 rfl (by kernel_rfl) (by kernel_rfl) (by kernel_rfl) rfl rfl rfl rfl rfl<|gX 18 rfl (by kernel_rfl) (by kernel_rfl) (by kernel_rfl) rfl rfl rfl rfl rfl<|gX 19 rfl (by kernel_rfl) (by kernel_rfl) (by kernel_rfl) rfl rfl rfl rfl rfl<|?_
      exact gX 20 rfl (by kernel_rfl) (by kernel_rfl) (by kernel_rfl) rfl rfl rfl rfl rfl<|Jz 21 Z<|Jf 22 Z<|Ja 23 Z<|Ja 24 Z<|Ad<|Re0<|Re0<|Sd<|⟨_, by exact R2, false, rfl, rfl, rfl, H⟩
    rintro _ _ _ - ⟨ac, rfl, rfl, rfl, H⟩
    unfold sX at H
    refine fx ?_
    obtain ⟨n, o⟩ := hY H
    subst e f
    refine ⟨(.inl rfl), [(sv a), (.bool ac)], ⟨(sv a), _, rfl, rfl, ⟨(.bool ac), _, rfl, rfl, rfl⟩⟩, ?_⟩
    exact Sd ⟨a, rfl, rfl, c⟩
   ·intro M
    obtain ⟨M, H⟩ := If M H
    refine ft<|fc<|fa<|EL 7 (fh p1 j l) Z (Rb1 Z)<|EL 5 (fe p2) Z (Rb0 Z)<|?_
    obtain ⟨aj, bp, bd, H⟩ := ir H
    refine ff rfl (Ek Tryz.call109 Z (qq p1 j l p2 aj bp bd _ _ aq ar) ?_)
    rintro _ _ _ - ⟨rfl, rfl, rfl⟩
    refine Em Z<|Ex Z<|Ex Z<|?_
    refine ff rfl (fC (cs := (fk (Case.mk false 0 0))) rfl rfl rfl rfl (fun bE => ?_))
    refine ff rfl (Sa (fk aj) Z .here Z ?_)
    refine Ea Z<|fb<|fc<|fc<|fa<|Em Z<|Eq Z (gi rfl)<|fb<|?_
    refine fm rfl ?_ ?_
    ·intro y
     have y := ix y
     have H := fX (btf y) H
     refine fc<|fa<|Ea Z<|Ea Z<|fb<|fx<|?_
     obtain ⟨n, o⟩ := hY H
     subst e f
     refine ⟨(.inl rfl), [(sv fB), (.bool false)], ⟨(sv fB), _, rfl, rfl, ⟨(.bool false), _, rfl, rfl, rfl⟩⟩, ?_⟩
     exact Re0<|Re0<|Re0<|Sd<|⟨fB, rfl, rfl, (Slr.nil fF _)⟩
    ·intro y
     have y := iw y
     have H := ift y H
     refine ft<|fc<|fa<|Em Z<|EL 3 (fk aj) Z (Rb0 Z)<|EL 5 (fe p2) Z (Rb1 Z)<|?_
     obtain ⟨bq, aC, be, H⟩ := ir H
     refine ff rfl (Ek Tryz.call110 Z (Af p0 a aj p2 bq aC be _ _ c) ?_)
     rintro _ bz _ bH ⟨ay, rfl, rfl, a5⟩
     refine Ex Z<|Ex Z<|Ea Z<|Ea Z<|fb<|fx<|?_
     obtain ⟨n, o⟩ := hY H
     subst e f
     refine ⟨(.inl rfl), [(sv ay), (.bool aC)], ⟨(sv ay), _, rfl, rfl, ⟨(.bool aC), _, rfl, rfl, rfl⟩⟩, ?_⟩
     exact Re0<|Re0<|Re0<|Sd<|⟨ay, rfl, rfl, a5⟩
  ·intro L
   obtain ⟨L, H⟩ := If L H
   refine fc<|fa<|Ec Z<|Ea Z<|fb<|?_
   refine fm rfl ?_ ?_
   ·intro N
    obtain ⟨N, H⟩ := It N H
    refine fc ?_
    refine fz (fun i h g => ∃ (aw : Bool), [(0, (sv a)), (4, (Vp s)), (118, (.bool aw))] = i ∧ K = h ∧ (.blk s 51 (fh p1 j l)) :: G = g ∧ pM p0 p1 aw = some (e, f)) ?_ ?_
    ·refine fa<|EF 0 Z<|El (Vi p1.kind) Z (Rb1 Z)<|Ec Z<|Em Z<|?_
     refine Ee Z ?_ ?_
     ·intro z
      have z := lG (ix (z))
      have H := fX z H
      refine Ez Z<|Ez Z<|Ez Z<|Et Z<|Em Z<|Ez Z<|Ez Z<|Ez Z<|Et Z<|Em Z<|Ez Z<|Ez Z<|Ez Z<|Ez Z<|Ez Z<|Et Z<|Em Z<|Ez Z<|Ez Z<|Ez Z<|Ez Z<|Ez Z<|?_
      exact Ez Z<|Et Z<|fb<|Pu1<|Re1<|Sd<|⟨_, by exact R3, true, rfl, rfl, rfl, H⟩
     ·intro z
      have z := lH (iw (z))
      have H := ift z H
      refine VF 1 Z<|Vl (Vi p2.case_) Z (Rb0 Z)<|Vc Z<|Ef Z<|Em Z<|?_
      refine Ee Z ?_ ?_
      ·intro A
       have A := lG (ix (A))
       have H := fX A H
       exact Ez Z<|Ez Z<|Ez Z<|Et Z<|Em Z<|Ez Z<|Ez Z<|Ez Z<|Ez Z<|Ez Z<|Et Z<|Em Z<|Ez Z<|Ez Z<|Ez Z<|Ez Z<|Ez Z<|Ez Z<|Et Z<|fb<|Pu1<|Re1<|Sd ⟨_, by exact R3, true, rfl, rfl, rfl, H⟩
      ·intro A
       have A := lH (iw (A))
       have H := ift A H
       refine VL 5 (fe p2) Z (Rb0 Z) ?_
       obtain ⟨br, bf, H⟩ := bnd H
       refine ib rfl rfl rfl rfl (Ek Tryz.call111 Z (iR p2 false false br bf _ _ ) ?_)
       rintro _ _ _ - ⟨rfl, rfl, rfl⟩
       refine Vq Z (gi rfl)<|Ef Z<|Em Z<|?_
       refine Ee Z ?_ ?_
       ·intro B
        have B := ix B
        have H := fX (btf B) H
        exact Ez Z<|Ez Z<|Ez Z<|Ez Z<|Ez Z<|Et Z<|Em Z<|Ez Z<|Ez Z<|Ez Z<|Ez Z<|Ez Z<|Ez Z<|Et Z<|fb<|Pu1<|Re1<|Sd<|⟨_, by exact R3, true, rfl, rfl, rfl, H⟩
       ·intro B
        have B := iw B
        have H := ift B H
        refine Vm Z<|VF 2 Z<|Vl (Vi p1.channel) Z (Rb1 Z)<|?_
        obtain ⟨bs, bg, H⟩ := bnd H
        refine ib rfl rfl rfl rfl (Ek Tryz.call107 Z (lS p0 a p1.channel bs bg _ _ c) ?_)
        rintro _ _ _ - ⟨rfl, rfl, rfl⟩
        refine Vq Z (gi rfl)<|Ef Z<|Em Z<|?_
        refine Ee Z ?_ ?_
        ·intro C
         have C := ix C
         have H := fX (btf C) H
         exact Ez Z<|Ez Z<|Ez Z<|Ez Z<|Ez Z<|Ez Z<|Et Z<|fb<|Pu1<|Re1<|Sd<|⟨_, by exact R3, true, rfl, rfl, rfl, H⟩
        ·intro C
         have C := iw C
         have H := ift C H
         refine Vm Z<|VF 2 Z<|Vl (Vi p1.channel) Z (Rb1 Z)<|?_
         obtain ⟨aP, aH, H⟩ := bnd H
         obtain ⟨bO, a0, aV⟩ := Slr.at c aH
         obtain ⟨bU, rfl, bL⟩ := a0
         exact Vq Z (Qi (T := fF) c aH Z)<|VF 2 Z<|Vl (.bool aP.closed) Z (Rdc.k aV rfl)<|Ef Z<|fb<|Pu1<|Re1<|Sd<|⟨_, by exact R3, aP.closed, rfl, rfl, rfl, H⟩
    rintro _ _ _ - ⟨aw, rfl, rfl, rfl, H⟩
    unfold pM at H
    refine fm rfl ?_ ?_
    ·intro al
     have H := ift al H
     refine fc<|fa<|Ea Z<|Ea Z<|fb<|fx<|?_
     obtain ⟨n, o⟩ := hY H
     subst e f
     refine ⟨(.inl rfl), [(sv fB), (.bool false)], ⟨(sv fB), _, rfl, rfl, ⟨(.bool false), _, rfl, rfl, rfl⟩⟩, ?_⟩
     exact Re0<|Sd<|⟨fB, rfl, rfl, (Slr.nil fF _)⟩
    ·intro al
     have H := fX (btf al) H
     refine ft<|fc<|fa<|Em Z<|EF 2 Z<|El (Vi p1.channel) Z (Rb0 Z)<|?_
     obtain ⟨w, aI, H⟩ := bnd H
     obtain ⟨bP, a1, aW⟩ := Slr.at c aI
     obtain ⟨ag, rfl, a6⟩ := a1
     refine Eq Z (Qi (T := fF) c aI Z)<|EL 3 (fy w ag) Z (Rdc.k aW rfl)<|?_
     refine ff rfl (fC (cs := (fy (fJ.mk 0 [] false) fB)) rfl rfl rfl rfl (fun bF => ?_))
     refine ff rfl (Sa (fy w ag) Z .here Z ?_)
     refine fb<|fc<|fa<|EF 2 Z<|?_
     refine ff rfl (So [(.bool true)] (fy (fJ.mk w.capacity w.buffer true) ag) Z .here Z ?_)
     refine fb<|fc<|fa<|Em Z<|EF 2 Z<|El (Vi p1.channel) Z (Rb1 Z)<|EL 3 (fy (fJ.mk w.capacity w.buffer true) ag) Z (Rb0 Z)<|?_
     obtain ⟨bt, bh, H⟩ := bnd H
     refine ff rfl (Ek Tryz.call112 Z (xl p0 a p1.channel (fJ.mk w.capacity w.buffer true) ag bt bh _ _ c a6) ?_)
     rintro _ _ _ - ⟨az, bS, rfl, rfl, rfl, a7⟩
     refine Ea Z<|Ea Z<|fb<|fx<|?_
     obtain ⟨n, o⟩ := hY H
     subst e f
     refine ⟨(.inl rfl), [(sv az), (.bool true)], ⟨(sv az), _, rfl, rfl, ⟨(.bool true), _, rfl, rfl, rfl⟩⟩, ?_⟩
     refine Shift.settle (T := fF) .here a7 rfl ?_
     intro bA bI a8
     exact Re0<|Re0<|Re0<|Sd<|⟨az, rfl, rfl, a8⟩
   ·intro N
    obtain ⟨N, H⟩ := If N H
    refine fc<|fa<|Ec Z<|Ea Z<|fb<|?_
    refine fm rfl ?_ ?_
    ·intro O
     obtain ⟨O, H⟩ := It O H
     refine fz (fun i h g => ∃ (ad : Bool), [(6, (sv a)), (7, (.bool ad))] = i ∧ G = g ∧ pN p0 ad = some (e, f)) ?_ ?_
     ·refine fa<|Em Z<|Em Z<|Em Z<|?_
      refine Ee Z ?_ ?_
      ·intro am
       have H := ift am H
       refine VF 1 Z<|Vl (Vi p1.mode) Z (Rb1 Z)<|Vc Z<|Et Z<|Em Z<|?_
       refine Ee Z ?_ ?_
       ·intro P
        obtain ⟨P, H⟩ := It P H
        refine VF 1 Z<|Vl (Vi p2.case_) Z (Rb0 Z)<|Vc Z<|Et Z<|Em Z<|?_
        refine Ee Z ?_ ?_
        ·intro Q
         obtain ⟨Q, H⟩ := It Q H
         refine VL 5 (fe p2) Z (Rb0 Z) ?_
         obtain ⟨bu, bi, H⟩ := bnd H
         refine ib rfl rfl rfl rfl (Ek Tryz.call111 Z (iR p2 false false bu bi _ _ ) ?_)
         rintro _ _ _ - ⟨rfl, rfl, rfl⟩
         refine Et Z<|Em Z<|?_
         refine Ee Z ?_ ?_
         ·intro an
          have H := ift an H
          refine Vm Z<|VL 7 (fh p1 j l) Z (Rb1 Z)<|?_
          obtain ⟨aQ, bj, H⟩ := bnd H
          refine ib rfl rfl rfl rfl (Ek Tryz.call113 Z (C6 p0 a p1 j l aQ bj _ _ c aq ar) ?_)
          rintro _ bB _ bJ ⟨rfl, rfl⟩
          exact Et Z<|Ea Z<|Ea Z<|fb<|Re0<|Re0<|Sd<|⟨_, by exact R2, aQ, rfl, rfl, H⟩
         ·intro an
          have H := fX (btf an) H
          exact Ez Z<|Ez Z<|Ez Z<|Ef Z<|Ea Z<|Ea Z<|fb<|Re0<|Re0<|Sd<|⟨_, by exact R2, false, rfl, rfl, H⟩
        ·intro Q
         obtain ⟨Q, H⟩ := If Q H
         exact Ez Z<|Ez Z<|Ef Z<|Em Z<|Ez Z<|Ez Z<|Ez Z<|Ef Z<|Ea Z<|Ea Z<|fb<|Re0<|Re0<|Sd<|⟨_, by exact R2, false, rfl, rfl, H⟩
       ·intro P
        obtain ⟨P, H⟩ := If P H
        exact Ez Z<|Ez Z<|Ez Z<|Ef Z<|Em Z<|Ez Z<|Ez Z<|Ef Z<|Em Z<|Ez Z<|Ez Z<|Ez Z<|Ef Z<|Ea Z<|Ea Z<|fb<|Re0<|Re0<|Sd<|⟨_, by exact R2, false, rfl, rfl, H⟩
      ·intro am
       have H := fX (btf am) H
       refine Ez Z<|Ez Z<|Ez Z<|Ef Z<|Em Z<|Ez Z<|Ez Z<|Ez Z<|Ef Z<|Em Z<|Ez Z<|Ez Z<|Ef Z<|Em Z<|Ez Z<|Ez Z<|Ez Z<|Ef Z<|Ea Z<|Ea Z<|fb<|Re0<|?_
       exact Re0<|Sd<|⟨_, by exact R2, false, rfl, rfl, H⟩
     rintro _ bC _ aT ⟨ad, rfl, rfl, H⟩
     unfold pN at H
     refine fx ?_
     obtain ⟨n, o⟩ := hY H
     subst e f
     refine ⟨(.inl rfl), [(sv a), (.bool ad)], ⟨(sv a), _, rfl, rfl, ⟨(.bool ad), _, rfl, rfl, rfl⟩⟩, ?_⟩
     have a9 := c.mono aT
     exact Sd ⟨a, rfl, rfl, a9⟩
    ·intro O
     obtain ⟨O, H⟩ := If O H
     refine fc<|fa<|Ec Z<|Ea Z<|fb<|?_
     refine fm rfl ?_ ?_
     ·intro R
      obtain ⟨R, H⟩ := It R H
      refine fz (fun i h g => ∃ (ae : Bool), [(6, (sv a)), (7, (.bool ae))] = i ∧ K = h ∧ G = g ∧ sY p0 ae = some (e, f)) ?_ ?_
      ·refine fa<|Em Z<|Em Z<|Em Z<|?_
       refine Ee Z ?_ ?_
       ·intro ao
        have H := ift ao H
        refine VF 1 Z<|Vl (Vi p1.mode) Z (Rb1 Z)<|Vc Z<|Et Z<|Em Z<|?_
        refine Ee Z ?_ ?_
        ·intro S
         obtain ⟨S, H⟩ := It S H
         refine VF 1 Z<|Vl (Vi p2.case_) Z (Rb0 Z)<|Vc Z<|Et Z<|Em Z<|?_
         refine Ee Z ?_ ?_
         ·intro U
          obtain ⟨U, H⟩ := It U H
          refine VL 5 (fe p2) Z (Rb0 Z) ?_
          obtain ⟨aR, bk, H⟩ := bnd H
          refine ib rfl rfl rfl rfl (Ek Tryz.call111 Z (iR p2 false false aR bk _ _ ) ?_)
          rintro _ _ _ - ⟨rfl, rfl, rfl⟩
          exact Et Z<|Ea Z<|Ea Z<|fb<|Re0<|Re0<|Sd<|⟨_, by exact R2, aR, rfl, rfl, rfl, H⟩
         ·intro U
          obtain ⟨U, H⟩ := If U H
          exact Ez Z<|Ez Z<|Ef Z<|Ea Z<|Ea Z<|fb<|Re0<|Re0<|Sd<|⟨_, by exact R2, false, rfl, rfl, rfl, H⟩
        ·intro S
         obtain ⟨S, H⟩ := If S H
         exact Ez Z<|Ez Z<|Ez Z<|Ef Z<|Em Z<|Ez Z<|Ez Z<|Ef Z<|Ea Z<|Ea Z<|fb<|Re0<|Re0<|Sd<|⟨_, by exact R2, false, rfl, rfl, rfl, H⟩
       ·intro ao
        have H := fX (btf ao) H
        exact Ez Z<|Ez Z<|Ez Z<|Ef Z<|Em Z<|Ez Z<|Ez Z<|Ez Z<|Ef Z<|Em Z<|Ez Z<|Ez Z<|Ef Z<|Ea Z<|Ea Z<|fb<|Re0<|Re0<|Sd<|⟨_, by exact R2, false, rfl, rfl, rfl, H⟩
      rintro _ _ _ - ⟨ae, rfl, rfl, rfl, H⟩
      unfold sY at H
      refine fx ?_
      obtain ⟨n, o⟩ := hY H
      subst e f
      refine ⟨(.inl rfl), [(sv a), (.bool ae)], ⟨(sv a), _, rfl, rfl, ⟨(.bool ae), _, rfl, rfl, rfl⟩⟩, ?_⟩
      exact Sd ⟨a, rfl, rfl, c⟩
     ·intro R
      obtain ⟨R, H⟩ := If R H
      refine fc<|fa<|Ec Z<|Ea Z<|fb<|?_
      refine fm rfl ?_ ?_
      ·intro V
       obtain ⟨V, H⟩ := It V H
       refine fc<|fa<|Ea Z<|fb<|?_
       refine fz (fun i h g => ∃ (aa : Int), [(0, (sv a)), (4, (Vp s)), (5, (Vp D)), (14, (Vi aa))] = i ∧ K = h ∧ (.blk D 38 (fe p2)) :: (.blk s 51 (fh p1 j l)) :: G = g ∧ oR p0 p2 p1 aa = some (e, f)) ?_ ?_
       ·refine fc<|fa<|Em Z<|EF 2 Z<|El (Vi p1.channel) Z (Rb1 Z)<|?_
        obtain ⟨bv, bl, H⟩ := bnd H
        refine ff rfl (Ek Tryz.call107 Z (lS p0 a p1.channel bv bl _ _ c) ?_)
        rintro _ _ _ - ⟨rfl, rfl, rfl⟩
        refine fb ?_
        refine fm rfl ?_ ?_
        ·intro ap
         have H := ift ap H
         refine fc<|fa<|Em Z<|EF 2 Z<|El (Vi p1.channel) Z (Rb1 Z)<|?_
         obtain ⟨bw, aJ, H⟩ := bnd H
         obtain ⟨bQ, a2, aX⟩ := Slr.at c aJ
         obtain ⟨bm, rfl, ba⟩ := a2
         refine Eq Z (Qi (T := fF) c aJ Z)<|EF 1 Z<|El (sv bm) Z (Rdc.k aX rfl)<|Eq Z (gg (T := Ty.u64) ba rfl rfl)<|Ea Z<|fb<|fc<|fa<|EF 0 Z<|El (Vi p1.kind) Z (Rb1 Z)<|Ec Z<|fb<|?_
         refine fm rfl ?_ ?_
         ·intro W
          obtain ⟨W, H⟩ := It W H
          refine fa<|Em Z<|EF 2 Z<|El (Vi p1.channel) Z (Rb1 Z)<|?_
          obtain ⟨aS, aK, H⟩ := bnd H
          obtain ⟨bR, a3, aY⟩ := Slr.at c aK
          obtain ⟨bV, rfl, bM⟩ := a3
          exact Eq Z (Qi (T := fF) c aK Z)<|EF 0 Z<|El (Vi aS.capacity) Z (Rdc.k aY rfl)<|Ea Z<|fb<|Pu1<|Pu1<|Sd<|⟨_, by exact R4, aS.capacity, rfl, rfl, rfl, H⟩
         ·intro W
          obtain ⟨W, H⟩ := If W H
          exact ft<|Pu1<|Pu1<|Sd<|⟨_, by exact R4, (bw.buffer.length : Int), rfl, rfl, rfl, H⟩
        ·intro ap
         have H := fX (btf ap) H
         exact ft<|Pu1<|Pu1<|Sd<|⟨_, by exact R4, 0, rfl, rfl, rfl, H⟩
       rintro _ _ _ - ⟨aa, rfl, rfl, rfl, H⟩
       unfold oR at H
       refine fz (fun i h g => ∃ (af : Bool), [(6, (sv a)), (7, (.bool af))] = i ∧ K = h ∧ G = g ∧ mF p0 af = some (e, f)) ?_ ?_
       ·rcases gR (dcd (p1.kind = 5)) with b | b <;> revert b
        ·intro m
         obtain ⟨m, H⟩ := It m H
         rcases gR (dcd (p2.case_ = (-1))) with b | b <;> revert b
         ·intro t
          obtain ⟨t, H⟩ := It t H
          obtain ⟨aD, aL, H⟩ := bnd H
          rcases gR aD with b | b <;> revert b
          ·intro X
           have H := ift X H
           refine fq _ rfl (Ic Mb0 (Ic Mb1 In0))<|Jm 0 Z<|JF 1 0 Z<|Jl 2 (Vi p1.kind) Z (Rb1 Z)<|Jc 3 Z<|Jm 4 Z<|Aw.known (d := 197) rfl (hZ m)<|Jz 5 Z<|Jz 6 Z<|Jz 7 Z<|Jt 8 Z<|Jm 9 Z<|BF 10 1 Z<|Bl 11 (Vi p2.case_) Z (Rb0 Z)<|Bc 12 Z<|Jt 13 Z<|Jm 14 Z<|Aw.known (d := 207) rfl (hZ t)<|BL 15 5 (fe p2) Z (Rb0 Z)<|?_
           refine gB 16 (by kernel_rfl) (jJ rfl rfl rfl rfl rfl ?_)
           refine Ek Tryz.call111 Z (iR p2 false true aD aL _ _ ) ?_
           rintro _ _ _ - ⟨rfl, rfl, rfl⟩
           refine ⟨(Ic Mb0 (Ic Mb1 In0)), ?_⟩
           exact Jt 17 Z<|Jm 18 Z<|Aw.known (d := 211) rfl (X)<|BF 19 4 Z<|Bl 20 (Vi p2.number) Z (Rb0 Z)<|Bm 21 Z<|Bc 22 Z<|Jt 23 Z<|Ja 24 Z<|Ja 25 Z<|Ad<|Re0<|Re0<|Sd<|⟨_, by exact R2, (dcd (p2.number = aa)), rfl, rfl, rfl, H⟩
          ·intro X
           have H := fX (btf X) H
           refine fq _ rfl (Ic Mb0 (Ic Mb1 In0))<|Jm 0 Z<|JF 1 0 Z<|Jl 2 (Vi p1.kind) Z (Rb1 Z)<|Jc 3 Z<|Jm 4 Z<|Aw.known (d := 197) rfl (hZ m)<|Jz 5 Z<|Jz 6 Z<|Jz 7 Z<|Jt 8 Z<|Jm 9 Z<|BF 10 1 Z<|Bl 11 (Vi p2.case_) Z (Rb0 Z)<|Bc 12 Z<|Jt 13 Z<|Jm 14 Z<|Aw.known (d := 207) rfl (hZ t)<|BL 15 5 (fe p2) Z (Rb0 Z)<|?_
           refine gB 16 (by kernel_rfl) (jJ rfl rfl rfl rfl rfl ?_)
           refine Ek Tryz.call111 Z (iR p2 false true aD aL _ _ ) ?_
           rintro _ _ _ - ⟨rfl, rfl, rfl⟩
           refine ⟨(Ic Mb0 (Ic Mb1 In0)), ?_⟩
           exact Jt 17 Z<|Jm 18 Z<|Aw.known (d := 211) rfl (X)<|Jz 19 Z<|Jz 20 Z<|Jz 21 Z<|Jz 22 Z<|Jf 23 Z<|Ja 24 Z<|Ja 25 Z<|Ad<|Re0<|Re0<|Sd<|⟨_, by exact R2, false, rfl, rfl, rfl, H⟩
         ·intro t
          obtain ⟨t, H⟩ := If t H
          refine fq _ rfl (Ic Mb0 (Ic Mb1 In0))<|Jm 0 Z<|JF 1 0 Z<|Jl 2 (Vi p1.kind) Z (Rb1 Z)<|Jc 3 Z<|Jm 4 Z<|Aw.known (d := 197) rfl (hZ m)<|Jz 5 Z<|Jz 6 Z<|Jz 7 Z<|Jt 8 Z<|Jm 9 Z<|BF 10 1 Z<|Bl 11 (Vi p2.case_) Z (Rb0 Z)<|Bc 12 Z<|Jt 13 Z<|Jm 14 Z<|Aw.known (d := 207) rfl (iq t)<|Jz 15 Z<|Jz 16 Z<|Jf 17 Z<|Jm 18 Z<|?_
          exact Jz 19 Z<|Jz 20 Z<|Jz 21 Z<|Jz 22 Z<|Jf 23 Z<|Ja 24 Z<|Ja 25 Z<|Ad<|Re0<|Re0<|Sd<|⟨_, by exact R2, false, rfl, rfl, rfl, H⟩
        ·intro m
         obtain ⟨m, H⟩ := If m H
         rcases gR (dcd (p1.kind = 6)) with b | b <;> revert b
         ·intro r
          obtain ⟨r, H⟩ := It r H
          rcases gR (dcd (p2.case_ = (-1))) with b | b <;> revert b
          ·intro u
           obtain ⟨u, H⟩ := It u H
           obtain ⟨aE, aM, H⟩ := bnd H
           rcases gR aE with b | b <;> revert b
           ·intro Y
            have H := ift Y H
            refine fq _ rfl (Ic Mb0 (Ic Mb1 In0))<|Jm 0 Z<|JF 1 0 Z<|Jl 2 (Vi p1.kind) Z (Rb1 Z)<|Jc 3 Z<|Jm 4 Z<|Aw.known (d := 197) rfl (iq m)<|BF 5 0 Z<|Bl 6 (Vi p1.kind) Z (Rb1 Z)<|Bc 7 Z<|Jf 8 Z<|Jm 9 Z<|Aw.known (d := 202) rfl (hZ r)<|BF 10 1 Z<|Bl 11 (Vi p2.case_) Z (Rb0 Z)<|Bc 12 Z<|Jt 13 Z<|Jm 14 Z<|Aw.known (d := 207) rfl (hZ u)<|BL 15 5 (fe p2) Z (Rb0 Z)<|?_
            refine gB 16 (by kernel_rfl) (jJ rfl rfl rfl rfl rfl ?_)
            refine Ek Tryz.call111 Z (iR p2 false true aE aM _ _ ) ?_
            rintro _ _ _ - ⟨rfl, rfl, rfl⟩
            refine ⟨(Ic Mb0 (Ic Mb1 In0)), ?_⟩
            exact Jt 17 Z<|Jm 18 Z<|Aw.known (d := 211) rfl (Y)<|BF 19 4 Z<|Bl 20 (Vi p2.number) Z (Rb0 Z)<|Bm 21 Z<|Bc 22 Z<|Jt 23 Z<|Ja 24 Z<|Ja 25 Z<|Ad<|Re0<|Re0<|Sd<|⟨_, by exact R2, (dcd (p2.number = aa)), rfl, rfl, rfl, H⟩
           ·intro Y
            have H := fX (btf Y) H
            refine fq _ rfl (Ic Mb0 (Ic Mb1 In0))<|Jm 0 Z<|JF 1 0 Z<|Jl 2 (Vi p1.kind) Z (Rb1 Z)<|Jc 3 Z<|Jm 4 Z<|Aw.known (d := 197) rfl (iq m)<|BF 5 0 Z<|Bl 6 (Vi p1.kind) Z (Rb1 Z)<|Bc 7 Z<|Jf 8 Z<|Jm 9 Z<|Aw.known (d := 202) rfl (hZ r)<|BF 10 1 Z<|Bl 11 (Vi p2.case_) Z (Rb0 Z)<|Bc 12 Z<|Jt 13 Z<|Jm 14 Z<|Aw.known (d := 207) rfl (hZ u)<|BL 15 5 (fe p2) Z (Rb0 Z)<|?_
            refine gB 16 (by kernel_rfl) (jJ rfl rfl rfl rfl rfl ?_)
            refine Ek Tryz.call111 Z (iR p2 false true aE aM _ _ ) ?_
            rintro _ _ _ - ⟨rfl, rfl, rfl⟩
            refine ⟨(Ic Mb0 (Ic Mb1 In0)), ?_⟩
            exact Jt 17 Z<|Jm 18 Z<|Aw.known (d := 211) rfl (Y)<|Jz 19 Z<|Jz 20 Z<|Jz 21 Z<|Jz 22 Z<|Jf 23 Z<|Ja 24 Z<|Ja 25 Z<|Ad<|Re0<|Re0<|Sd<|⟨_, by exact R2, false, rfl, rfl, rfl, H⟩
          ·intro u
           obtain ⟨u, H⟩ := If u H
           refine fq _ rfl (Ic Mb0 (Ic Mb1 In0))<|Jm 0 Z<|JF 1 0 Z<|Jl 2 (Vi p1.kind) Z (Rb1 Z)<|Jc 3 Z<|Jm 4 Z<|Aw.known (d := 197) rfl (iq m)<|BF 5 0 Z<|Bl 6 (Vi p1.kind) Z (Rb1 Z)<|Bc 7 Z<|Jf 8 Z<|Jm 9 Z<|Aw.known (d := 202) rfl (hZ r)<|BF 10 1 Z<|Bl 11 (Vi p2.case_) Z (Rb0 Z)<|Bc 12 Z<|Jt 13 Z<|Jm 14 Z<|Aw.known (d := 207) rfl (iq u)<|Jz 15 Z<|Jz 16 Z<|Jf 17 Z<|?_
           exact Jm 18 Z<|Jz 19 Z<|Jz 20 Z<|Jz 21 Z<|Jz 22 Z<|Jf 23 Z<|Ja 24 Z<|Ja 25 Z<|Ad<|Re0<|Re0<|Sd<|⟨_, by exact R2, false, rfl, rfl, rfl, H⟩
         ·intro r
          obtain ⟨r, H⟩ := If r H
          refine fq _ rfl (Ic Mb0 (Ic Mb1 In0))<|Jm 0 Z<|JF 1 0 Z<|Jl 2 (Vi p1.kind) Z (Rb1 Z)<|Jc 3 Z<|Jm 4 Z<|Aw.known (d := 197) rfl (iq m)<|BF 5 0 Z<|Bl 6 (Vi p1.kind) Z (Rb1 Z)<|Bc 7 Z<|Jf 8 Z<|Jm 9 Z<|Aw.known (d := 202) rfl (iq r)<|Jz 10 Z<|Jz 11 Z<|Jz 12 Z<|Jf 13 Z<|Jm 14 Z<|Jz 15 Z<|Jz 16 Z<|Jf 17 Z<|Jm 18 Z<|?_
          exact Jz 19 Z<|Jz 20 Z<|Jz 21 Z<|Jz 22 Z<|Jf 23 Z<|Ja 24 Z<|Ja 25 Z<|Ad<|Re0<|Re0<|Sd<|⟨_, by exact R2, false, rfl, rfl, rfl, H⟩
       rintro _ _ _ - ⟨af, rfl, rfl, rfl, H⟩
       unfold mF at H
       refine fx ?_
       obtain ⟨n, o⟩ := hY H
       subst e f
       refine ⟨(.inl rfl), [(sv a), (.bool af)], ⟨(sv a), _, rfl, rfl, ⟨(.bool af), _, rfl, rfl, rfl⟩⟩, ?_⟩
       exact Sd ⟨a, rfl, rfl, c⟩
      ·intro V
       obtain ⟨V, H⟩ := If V H
       refine ft<|fc<|fa<|Ea Z<|Ea Z<|fb<|fx<|?_
       obtain ⟨n, o⟩ := hY H
       subst e f
       refine ⟨(.inl rfl), [(sv fB), (.bool false)], ⟨(sv fB), _, rfl, rfl, ⟨(.bool false), _, rfl, rfl, rfl⟩⟩, ?_⟩
       exact Re0<|Re0<|Sd<|⟨fB, rfl, rfl, (Slr.nil fF _)⟩
theorem qt (p0 : ad0) (g : SV) (p1 : Op) (b : SV) (c : SV) (p2 : Result) (d : ad0) (e : Bool) (H : pO p0 p1 p2 = some (d, e)) (K : Kp) (G : List Ent) (m : Slr fF K (sv g) p0) (n : Slr fW K (sv b) p1.cases) (o : Slr Ty.i64 K (sv c) p1.draws) :
  Fc Tryz.prog 51 #[(sv g), (.agg (fh p1 b c).toArray), (.agg (fe p2).toArray)] K (G) (fun v j i => ∃ (h : SV), v = (.tuple #[(sv h), (.bool e)]) ∧ G = i ∧ Slr fF j (sv h) d) := by
 refine fN Tryz.func51 rfl Tryz.ntmps51 Tryz.results51 rfl ?_
 unfold pO at H
 refine fc<|fa<|?_
 refine ff rfl (fR (cs := (fh p1 b c)) rfl rfl rfl (fun t => ?_))
 refine ff rfl (fR (cs := (fe p2)) rfl rfl rfl (fun u => ?_))
 refine Ea Z<|Ea Z<|fb<|fc<|fa<|Em Z<|EL 7 (fh p1 b c) Z (Rb1 Z)<|EL 5 (fe p2) Z (Rb0 Z)<|?_
 obtain ⟨r, x14, q, H⟩ := ir H
 refine ff rfl (Ek Tryz.call85 Z (Ds p0 g p1 b c p2 r x14 q _ _ m n o) ?_)
 rintro _ s _ w ⟨f, rfl, rfl, p⟩
 refine Em Z<|Ex Z<|Ex Z<|Ea Z<|Ea Z<|fb<|fc<|fc<|fa<|Em Z<|Eq Z (gi rfl)<|fb<|?_
 refine fm rfl ?_ ?_
 ·intro a
  have a := ix a
  have H := fX (btf a) H
  refine fc<|fa<|Ea Z<|Ea Z<|fb<|fx<|?_
  obtain ⟨k, l⟩ := hY H
  subst d e
  refine ⟨(.inl rfl), [(sv fB), (.bool false)], ⟨(sv fB), _, rfl, rfl, ⟨(.bool false), _, rfl, rfl, rfl⟩⟩, ?_⟩
  exact Re0<|Re0<|Sd<|⟨fB, rfl, rfl, (Slr.nil fF _)⟩
 ·intro a
  have a := iw a
  have H := ift a H
  refine ft<|fc<|fa<|Em Z<|Ea Z<|Ea Z<|fb<|fx<|?_
  obtain ⟨k, l⟩ := hY H
  subst d e
  refine ⟨(.inl rfl), [(sv f), (.bool true)], ⟨(sv f), _, rfl, rfl, ⟨(.bool true), _, rfl, rfl, rfl⟩⟩, ?_⟩
  exact Re0<|Re0<|Sd<|⟨f, rfl, rfl, p⟩
end Go.Hx
namespace Go.Hx
open Go Go.Proofs
set_option maxRecDepth 10000
set_option maxHeartbeats 1000000
theorem yd (p0 : ad4) (s : SV) (n : ae1) (H : oM p0 = some n) (K : Kp) (G : List Ent) (F : Slr f4 K (sv s) p0) :
  Fc Tryz.prog 34 #[(sv s)] K (G) (fun v i h => ∃ (t : SV), v = (sv t) ∧ (.tok 91 2 [(sv t)]) :: G = h ∧ Slr gr i (sv t) n) := by
 refine fN Tryz.func34 rfl Tryz.ntmps34 Tryz.results34 rfl ?_
 unfold oM at H
 refine fc<|fa<|Ea Z<|fb<|fc<|fa<|Ea Z<|fb<|?_
 refine fz (fun o i h => ∃ (d : SV) (r : ae1), [(3, (sv d))] = o ∧ (.tok 91 2 [(sv d)]) :: G = h ∧ vS r = some n ∧ Slr gr i (sv d) r) ?_ ?_
 ·refine fc<|fa<|Ea Z<|fb<|fA<|?_
  refine f7 (fun n273 o i h => ∃ (e : SV) (m : ae1) (c : Int), [(0, (sv s)), (3, (sv e)), (4, (Vi c))] = o ∧ (.tok 91 2 [(sv e)]) :: G = h ∧ lp2 (rQ p0) n273 m c = some n ∧ Slr gr i (sv e) m) BIG ?_ ?_
  ·exact Shift.nilTok1 91 2<|Sd<|⟨_, by exact R3, fB, ([] : ae1), 0, rfl, rfl, H, (Slr.nil gr _)⟩
  rintro n273 _ A _ B ⟨e, m, c, rfl, rfl, H, p⟩
  obtain ⟨W, V, rfl, w, H⟩ := jL H
  unfold rQ at H
  refine fc<|fc<|fa<|Em Z<|Em Z<|?_
  have b := F.mono B
  refine Eq Z (gg (T := f4) b rfl rfl)<|Ec Z<|fb<|?_
  refine fm rfl ?_ ?_
  ·intro j
   obtain ⟨j, H⟩ := It j H
   refine ft<|fc<|fA<|fc<|fa<|Em Z<|Em Z<|?_
   obtain ⟨N, x, H⟩ := bnd H
   obtain ⟨_, rfl, C⟩ := Slr.at b x
   refine Eq Z (Qi (T := f4) b x Z)<|EF 2 Z<|El (.bool N.ret) Z (Rdc.k C rfl)<|Eq Z (gi rfl)<|fb<|?_
   refine fm rfl ?_ ?_
   ·intro a
    have a := ix a
    have H := fX (btf a) H
    obtain ⟨f, y, H⟩ := bnd H
    obtain ⟨g, z, H⟩ := bnd H
    obtain ⟨O, L, H⟩ := bnd H
    refine fq _ rfl In0<|Jm 0 Z<|Jm 1 Z<|Jm 2 Z<|?_
    obtain ⟨_, rfl, D⟩ := Slr.at b y
    refine Jq 3 Z (Qi (T := f4) b y Z)<|JF 4 0 Z<|Jl 5 (Vi f.thread) Z (Rdc.k D rfl)<|Jm 6 Z<|Jm 7 Z<|?_
    obtain ⟨_, rfl, E⟩ := Slr.at b z
    refine Jq 8 Z (Qi (T := f4) b z Z)<|JF 9 1 Z<|Jl 10 (Vi g.op) Z (Rdc.k E rfl)<|Jq 11 Z (kH (cs := (gb (A2Int.mk f.thread g.op))) rfl rfl rfl rfl rfl rfl)<|?_
    refine Ao 12 Z ?_
    have u : RowR gr A [(gb (A2Int.mk f.thread g.op))] [(A2Int.mk f.thread g.op)] := RowR.cons rfl (RowR.nil)
    refine gk (T := gr) (rows := [(gb (A2Int.mk f.thread g.op))]) (l := [(A2Int.mk f.thread g.op)]) rfl rfl rfl u rfl rfl rfl rfl rfl rfl rfl rfl (fun X => ⟨In0, ?_⟩)
    refine Ao 13 Z ?_
    refine ga (T := gr) (bytes := 16) (q := 0) rfl rfl rfl p Mb1 rfl (SrcT.row Mb0 u rfl) L rfl rfl rfl rfl rfl rfl rfl rfl (fun M P S J => ⟨_, (.there .here), ⟨In0, ?_⟩⟩)
    refine Aw.shift (Re0 (Sd ⟨In0, ?_⟩))
    exact Ja 14 Z<|Ad<|fa<|Em Z<|Er (wI (c + 1)) Z<|Ea Z<|fb<|Sd<|⟨_, by exact R3, _, Nat.lt_succ_self _, M, O, (wI (c + 1)), rfl, rfl, (w ▸ H), J⟩
   ·intro a
    have a := iw a
    have H := ift a H
    exact ft<|fa<|Em Z<|Er (wI (c + 1)) Z<|Ea Z<|fb<|Sd<|⟨_, by exact R3, _, Nat.lt_succ_self _, e, m, (wI (c + 1)), rfl, rfl, (w ▸ H), p⟩
  ·intro j
   obtain ⟨j, H⟩ := If j H
   exact f9<|Sd<|⟨_, by exact R1, e, m, rfl, rfl, H, p⟩
 rintro _ Q _ U ⟨d, r, rfl, rfl, H, I⟩
 unfold vS at H
 refine fc<|fa<|Em Z<|Ea Z<|fb<|fx<|?_
 obtain R := gn H
 subst n
 refine ⟨(.inl rfl), [(sv d)], ⟨(sv d), _, rfl, rfl, rfl⟩, ?_⟩
 exact Sd ⟨d, rfl, rfl, I⟩
theorem qp (p0 : ad4) (j : SV) (p1 : Int) (p2 : Int) (p3 : Bool) (d : Int) (H : nf p0 p1 p2 p3 = some d) (K : Kp) (G : List Ent) (c : Slr f4 K (sv j) p0) :
  Fc Tryz.prog 65 #[(sv j), (Vi p1), (Vi p2), (.bool p3)] K (G) (fun v e b => v = (Vi d) ∧ G = b) := by
 refine fN Tryz.func65 rfl Tryz.ntmps65 Tryz.results65 rfl ?_
 unfold nf at H
 refine fc<|fa<|Ea Z<|fb<|?_
 refine fz (fun f e b => [] = f ∧ G = b ∧ vT = some d) ?_ ?_
 ·refine fc<|fa<|Ea Z<|fb<|fA<|?_
  refine f7 (fun n157 f e b => ∃ (a : Int), [(0, (sv j)), (1, (Vi p1)), (2, (Vi p2)), (3, (.bool p3)), (9, (Vi a))] = f ∧ K = e ∧ G = b ∧ lp1 (rR p0 p1 p2 p3) n157 a = some d) BIG ?_ ?_
  ·exact Sd ⟨_, by exact R5, 0, rfl, rfl, rfl, H⟩
  rintro n157 _ _ _ - ⟨a, rfl, rfl, rfl, H⟩
  obtain ⟨C, x, rfl, w, H⟩ := lx H
  unfold rR at H
  refine fc<|fc<|fa<|Em Z<|Em Z<|Eq Z (gg (T := f4) c rfl rfl)<|Ec Z<|fb<|?_
  refine fm rfl ?_ ?_
  ·intro g
   obtain ⟨g, H⟩ := It g H
   refine ft<|fc<|fA<|?_
   refine fz (fun f e b => ∃ (m : Bool), [(0, (sv j)), (1, (Vi p1)), (2, (Vi p2)), (3, (.bool p3)), (9, (Vi a)), (40, (.bool m))] = f ∧ K = e ∧ G = b ∧ oN p0 p1 p2 p3 a x m = some d) ?_ ?_
   ·refine fa<|Em Z<|Em Z<|?_
    obtain ⟨y, n, H⟩ := bnd H
    obtain ⟨_, rfl, s⟩ := Slr.at c n
    refine Eq Z (Qi (T := f4) c n Z)<|EF 0 Z<|El (Vi y.thread) Z (Rdc.k s rfl)<|Em Z<|Ec Z<|Em Z<|?_
    refine Ee Z ?_ ?_
    ·intro h
     obtain ⟨h, H⟩ := It h H
     refine Vm Z<|Vm Z<|?_
     obtain ⟨z, o, H⟩ := bnd H
     obtain ⟨_, rfl, t⟩ := Slr.at c o
     refine Vq Z (Qi (T := f4) c o Z)<|VF 1 Z<|Vl (Vi z.op) Z (Rdc.k t rfl)<|Vm Z<|Vc Z<|Et Z<|Em Z<|?_
     refine Ee Z ?_ ?_
     ·intro i
      obtain ⟨i, H⟩ := It i H
      refine Vm Z<|Vm Z<|?_
      obtain ⟨q, p, H⟩ := bnd H
      obtain ⟨_, rfl, u⟩ := Slr.at c p
      exact Vq Z (Qi (T := f4) c p Z)<|VF 2 Z<|Vl (.bool q.ret) Z (Rdc.k u rfl)<|Vm Z<|Vq Z (zq rfl rfl rfl)<|Et Z<|fb<|Sd<|⟨_, by exact R6, (q.ret == p3), rfl, rfl, rfl, H⟩
     ·intro i
      obtain ⟨i, H⟩ := If i H
      exact Ez Z<|Ez Z<|Ez Z<|Ez Z<|Ez Z<|Ez Z<|Ez Z<|Ef Z<|fb<|Sd<|⟨_, by exact R6, false, rfl, rfl, rfl, H⟩
    ·intro h
     obtain ⟨h, H⟩ := If h H
     exact Ez Z<|Ez Z<|Ez Z<|Ez Z<|Ez Z<|Ez Z<|Ez Z<|Ef Z<|Em Z<|Ez Z<|Ez Z<|Ez Z<|Ez Z<|Ez Z<|Ez Z<|Ez Z<|Ef Z<|fb<|Sd<|⟨_, by exact R6, false, rfl, rfl, rfl, H⟩
   rintro _ _ _ - ⟨m, rfl, rfl, rfl, H⟩
   unfold oN at H
   refine fm rfl ?_ ?_
   ·intro l
    have H := ift l H
    refine fc<|fa<|Em Z<|Ea Z<|fb<|fx<|?_
    obtain r := gn H
    subst d
    refine ⟨(.inl rfl), [(Vi a)], ⟨(Vi a), _, rfl, rfl, rfl⟩, ?_⟩
    exact Sd ⟨rfl, rfl⟩
   ·intro l
    have H := fX (btf l) H
    exact ft<|fa<|Em Z<|Er (wI (a + 1)) Z<|Ea Z<|fb<|Sd<|⟨_, by exact R5, _, Nat.lt_succ_self _, (wI (a + 1)), rfl, rfl, rfl, (w ▸ H)⟩
  ·intro g
   obtain ⟨g, H⟩ := If g H
   exact f9<|Sd<|⟨[], trivial, rfl, rfl, H⟩
 rintro _ A _ B ⟨rfl, rfl, H⟩
 unfold vT at H
 refine fc<|fa<|Ea Z<|fb<|fx<|?_
 obtain r := gn H
 subst d
 refine ⟨(.inl rfl), [(Vi (-1))], ⟨(Vi (-1)), _, rfl, rfl, rfl⟩, ?_⟩
 exact Sd ⟨rfl, rfl⟩
theorem qw (p0 : ad4) (e : SV) (p1 : Int) (p2 : Int) (c : Result) (d : Int) (H : sQ p0 p1 p2 = some (c, d)) (K : Kp) (G : List Ent) (f : Slr f4 K (sv e) p0) :
  Fc Tryz.prog 33 #[(sv e), (Vi p1), (Vi p2)] K (G) (fun v p i => v = (.tuple #[(.agg (fe c).toArray), (Vi d)]) ∧ G = i) := by
 refine fN Tryz.func33 rfl Tryz.ntmps33 Tryz.results33 rfl ?_
 unfold sQ at H
 refine fc<|fa<|?_
 refine ff rfl (fC (cs := (fe (Result.mk 0 0 0 false 0))) rfl rfl rfl rfl (fun r => ?_))
 refine Ea Z<|fb<|fc<|fa<|Em Z<|Em Z<|Em Z<|?_
 obtain ⟨x14, o, H⟩ := bnd H
 refine ff rfl (Ek Tryz.call65 Z (qp p0 e p1 p2 true x14 o _ _ f) ?_)
 rintro _ q _ m ⟨rfl, rfl⟩
 refine Ea Z<|fb<|fc<|fc<|fa<|Em Z<|Ec Z<|fb<|?_
 refine fm rfl ?_ ?_
 ·intro a
  obtain ⟨a, H⟩ := It a H
  refine fc<|fa<|Eq Z (fH (cs := (fe (Result.mk 0 0 0 false 0))) rfl rfl rfl rfl rfl rfl)<|?_
  refine ff rfl (Sa (fe (Result.mk 0 0 0 false 0)) Z .here Z ?_)
  refine Ea Z<|fb<|fx<|?_
  obtain ⟨j, l⟩ := hY H
  subst c d
  refine ⟨(.inl rfl), [(.agg (fe (Result.mk 0 0 0 false 0)).toArray), (Vi (-1))], ⟨(.agg (fe (Result.mk 0 0 0 false 0)).toArray), _, rfl, ⟨_, 5, (fe (Result.mk 0 0 0 false 0)), rfl, rfl, rfl, rfl, ⟨rfl, Rb0 Z⟩, rfl⟩, ⟨(Vi (-1)), _, rfl, rfl, rfl⟩⟩, ?_⟩
  exact Re0<|Sd<|⟨rfl, rfl⟩
 ·intro a
  obtain ⟨a, H⟩ := If a H
  refine ft<|fc<|fa<|Em Z<|Em Z<|?_
  obtain ⟨b, h, H⟩ := bnd H
  have g := f.mono m
  obtain ⟨_, rfl, n⟩ := Slr.at g h
  refine Eq Z (Qi (T := f4) g h Z)<|EF 3 Z<|EL 5 (fe b.result) Z (Rdc.k n rfl)<|Em Z<|?_
  refine ff rfl (Sa (fe b.result) Z .here Z ?_)
  refine Ea Z<|fb<|fx<|?_
  obtain ⟨j, l⟩ := hY H
  subst c d
  refine ⟨(.inl rfl), [(.agg (fe b.result).toArray), (Vi x14)], ⟨(.agg (fe b.result).toArray), _, rfl, ⟨_, 5, (fe b.result), rfl, rfl, rfl, rfl, ⟨rfl, Rb0 Z⟩, rfl⟩, ⟨(Vi x14), _, rfl, rfl, rfl⟩⟩, ?_⟩
  exact Re0<|Sd<|⟨rfl, rfl⟩
theorem lr (p0 : ad4) (d : SV) (p1 : A2Int) (p2 : A2Int) (e : Bool) (H : ng p0 p1 p2 = some e) (K : Kp) (G : List Ent) (h : Slr f4 K (sv d) p0) :
  Fc Tryz.prog 35 #[(sv d), (.agg (gb p1).toArray), (.agg (gb p2).toArray)] K (G) (fun v g f => v = (.bool e) ∧ G = f) := by
 refine fN Tryz.func35 rfl Tryz.ntmps35 Tryz.results35 rfl ?_
 unfold ng at H
 refine fc<|fa<|?_
 refine ff rfl (fR (cs := (gb p1)) rfl rfl rfl (fun t => ?_))
 refine ff rfl (fR (cs := (gb p2)) rfl rfl rfl (fun u => ?_))
 refine Ea Z<|fb<|fc<|?_
 obtain ⟨i, p, H⟩ := bnd H
 obtain ⟨j, r, H⟩ := bnd H
 refine fq _ rfl (Ic Mb0 (Ic Mb1 In0))<|Jm 0 Z<|Jq 1 Z (ic (q := 0) (m := 0) rfl rfl rfl rfl rfl (by decide) rfl (by decide))<|Jl 2 (Vi p1.x0) Z (Rb1 Z)<|Jq 3 Z (ic (q := 1) (m := 1) rfl rfl rfl rfl rfl (by decide) rfl (by decide))<|Jl 4 (Vi p1.x1) Z (Rb1 Z)<|Jm 6 Z<|Jq 7 Z (ic (q := 0) (m := 0) rfl rfl rfl rfl rfl (by decide) rfl (by decide))<|Jl 8 (Vi p2.x0) Z (Rb0 Z)<|Jq 9 Z (ic (q := 1) (m := 1) rfl rfl rfl rfl rfl (by decide) rfl (by decide))<|Jl 10 (Vi p2.x1) Z (Rb0 Z)<|?_
 refine Ao 5 Z ?_
 refine Ek Tryz.call65 Z (qp p0 d p1.x0 p1.x1 true i p _ _ h) ?_
 rintro _ s _ n ⟨rfl, rfl⟩
 refine ⟨(Ic Mb0 (Ic Mb1 In0)), ?_⟩
 refine Ao 11 Z ?_
 have o := h.mono n
 refine Ek Tryz.call65 Z (qp p0 d p2.x0 p2.x1 false j r _ _ o) ?_
 rintro _ k _ x ⟨rfl, rfl⟩
 refine ⟨(Ic Mb0 (Ic Mb1 In0)), ?_⟩
 refine Ja 12 Z<|Ja 13 Z<|Ad<|?_
 refine fz (fun l g f => ∃ (c : Bool), [(6, (.bool c))] = l ∧ k = g ∧ G = f ∧ oO c = some e) ?_ ?_
 ·refine fa<|Em Z<|Ec Z<|Em Z<|?_
  refine Ee Z ?_ ?_
  ·intro a
   obtain ⟨a, H⟩ := It a H
   refine Vm Z<|Vc Z<|Et Z<|Em Z<|?_
   refine Ee Z ?_ ?_
   ·intro b
    obtain ⟨b, H⟩ := It b H
    exact Vm Z<|Vm Z<|Vc Z<|Et Z<|Ea Z<|fb<|Re0<|Re0<|Sd<|⟨_, by exact R1, (dcd (i < j)), rfl, rfl, rfl, H⟩
   ·intro b
    obtain ⟨b, H⟩ := If b H
    exact Ez Z<|Ez Z<|Ez Z<|Ef Z<|Ea Z<|fb<|Re0<|Re0<|Sd<|⟨_, by exact R1, false, rfl, rfl, rfl, H⟩
  ·intro a
   obtain ⟨a, H⟩ := If a H
   exact Ez Z<|Ez Z<|Ef Z<|Em Z<|Ez Z<|Ez Z<|Ez Z<|Ef Z<|Ea Z<|fb<|Re0<|Re0<|Sd<|⟨_, by exact R1, false, rfl, rfl, rfl, H⟩
 rintro _ _ _ - ⟨c, rfl, rfl, rfl, H⟩
 unfold oO at H
 refine fx ?_
 obtain w := gn H
 subst e
 refine ⟨(.inl rfl), [(.bool c)], ⟨(.bool c), _, rfl, rfl, rfl⟩, ?_⟩
 exact Sd ⟨rfl, rfl⟩
theorem C5 (p0 : ae3) (f : SV) (p1 : ad4) (b : SV) (p2 : Bool) (p3 : Bool) (y : ae3) (z : ad4) (A : ae1) (B : af5) (C : ae5) (D : ad6) (E : Bool) (F : Bool) (H : rT p0 p1 p2 p3 = some (y, z, A, B, C, D, E, F)) (K : Kp) (G : List Ent) (bv : Slr (Ty.sl gC) K (sv f) p0) (aa : Slr f4 K (sv b) p1) :
  Fc Tryz.prog 25 #[(sv f), (sv b), (.bool p2), (.bool p3)] K (G) (fun v c g => ∃ (aR : Nat) (bc : SV) (bd : SV) (aK : SV) (aL : SV) (aM : SV) (aN : SV), v = (Vp aR) ∧ (.blk aR 76 [(sv bc), (sv bd), (sv aK), (sv aL), (sv aM), (sv aN), (.bool E), (.bool F), (sv fB)]) :: (.tok 91 2 [(sv aK)]) :: (.tok 71 1 [(sv aL)]) :: (.tok 4 1 [(sv aM)]) :: (.tok 38 5 [(sv aN)]) :: G = g ∧ Slr (Ty.sl gC) c (sv bc) y ∧ Slr f4 c (sv bd) z ∧ Slr gr c (sv aK) A ∧ Slr (Ty.sl Ty.bool) c (sv aL) B ∧ Slr Ty.bool c (sv aM) C ∧ Slr fO c (sv aN) D) := by
 refine fN Tryz.func25 rfl Tryz.ntmps25 Tryz.results25 rfl ?_
 unfold rT at H
 refine fc<|fa<|Ea Z<|fb<|fc<|fa<|Em Z<|Em Z<|Em Z<|?_
 obtain ⟨M, b0, H⟩ := bnd H
 refine ff rfl (Ek Tryz.call34 Z (yd p1 b M b0 _ _ aa) ?_)
 rintro _ cg _ Y ⟨a, rfl, rfl, a2⟩
 refine Em Z<|Em Z<|Eq Z (fH (cs := [(sv f), (sv b), (sv a), (sv fB), (sv fB), (sv fB), (.bool p2), (.bool p3), (sv fB)]) rfl rfl rfl rfl rfl rfl)<|?_
 refine ff rfl (fR (cs := [(sv f), (sv b), (sv a), (sv fB), (sv fB), (sv fB), (.bool p2), (.bool p3), (sv fB)]) rfl rfl rfl (fun d => ?_))
 refine Ea Z<|fb<|?_
 refine fz (fun j c g => ∃ (ak : SV) (aD : af5) (al : SV) (aE : ae5) (am : SV) (aF : ad6), [(9, (Vp d))] = j ∧ (.blk d 76 [(sv f), (sv b), (sv a), (sv ak), (sv al), (sv am), (.bool p2), (.bool p3), (sv fB)]) :: (.tok 71 1 [(sv ak)]) :: (.tok 4 1 [(sv al)]) :: (.tok 38 5 [(sv am)]) :: (.tok 91 2 [(sv a)]) :: G = g ∧ vU p0 p1 M p2 p3 aD aE aF = some (y, z, A, B, C, D, E, F) ∧ Slr (Ty.sl Ty.bool) c (sv ak) aD ∧ Slr Ty.bool c (sv al) aE ∧ Slr fO c (sv am) aF) ?_ ?_
 ·refine fc<|fa<|Ea Z<|fb<|fA<|?_
  refine f7 (fun ba j c g => ∃ (h : Int) (e : SV) (J : af5) (L : SV) (ad : ae5) (w : SV) (ae : ad6), [(1, (sv b)), (9, (Vp d)), (10, (Vi h))] = j ∧ (.blk d 76 [(sv f), (sv b), (sv a), (sv e), (sv L), (sv w), (.bool p2), (.bool p3), (sv fB)]) :: (.tok 71 1 [(sv e)]) :: (.tok 4 1 [(sv L)]) :: (.tok 38 5 [(sv w)]) :: (.tok 91 2 [(sv a)]) :: G = g ∧ lp4 (v6 p1 p0 M p2 p3) ba h J ad ae = some (y, z, A, B, C, D, E, F) ∧ Slr (Ty.sl Ty.bool) c (sv e) J ∧ Slr Ty.bool c (sv L) ad ∧ Slr fO c (sv w) ae) BIG ?_ ?_
  ·exact Shift.nilTok1 71 1<|Shift.nilTok1 4 1<|Shift.nilTok1 38 5<|Pu4<|Pu1<|Pu2<|Pu3<|Pu4<|Sd<|⟨_, by exact R3, 0, fB, ([] : af5), fB, ([] : ae5), fB, ([] : ad6), rfl, rfl, H, (Slr.nil (Ty.sl Ty.bool) _), (Slr.nil Ty.bool _), (Slr.nil fO _)⟩
  rintro ba _ b4 _ an ⟨h, e, J, L, ad, w, ae, rfl, rfl, H, aZ, a0, aC⟩
  obtain ⟨cy, ac, rfl, bt, H⟩ := lps4 H
  unfold v6 at H
  refine fc<|fc<|fa<|Em Z<|Em Z<|Eq Z (fD rfl)<|EF 2 Z<|El (sv a) Z (Rb0 Z)<|?_
  have R := a2.mono an
  refine Eq Z (gg (T := gr) R rfl rfl)<|Ec Z<|fb<|?_
  refine fm rfl ?_ ?_
  ·intro V
   obtain ⟨V, H⟩ := It V H
   refine ft ?_
   refine fz (fun j c g => ∃ (ah : SV) (aq : af5) (ai : SV) (ar : ae5) (aj : SV) (au : ad6), [(1, (sv b)), (9, (Vp d)), (10, (Vi h))] = j ∧ (.blk d 76 [(sv f), (sv b), (sv a), (sv ah), (sv ai), (sv aj), (.bool p2), (.bool p3), (sv fB)]) :: (.tok 71 1 [(sv ah)]) :: (.tok 4 1 [(sv ai)]) :: (.tok 38 5 [(sv aj)]) :: (.tok 91 2 [(sv a)]) :: G = g ∧ vV p1 h p0 M p2 p3 ac aq ar au = some (y, z, A, B, C, D, E, F) ∧ Slr (Ty.sl Ty.bool) c (sv ah) aq ∧ Slr Ty.bool c (sv ai) ar ∧ Slr fO c (sv aj) au) ?_ ?_
   ·refine fA ?_
    refine fz (fun j c g => ∃ (ax : Nat) (N : Int) (n : Int) (o : Int) (p : Int) (t : Bool) (s : Int), [(1, (sv b)), (9, (Vp d)), (10, (Vi h)), (11, (Vp ax)), (12, (Vi N))] = j ∧ (.blk ax 38 (fe (Result.mk n o p t s))) :: (.blk d 76 [(sv f), (sv b), (sv a), (sv e), (sv L), (sv w), (.bool p2), (.bool p3), (sv fB)]) :: (.tok 71 1 [(sv e)]) :: (.tok 4 1 [(sv L)]) :: (.tok 38 5 [(sv w)]) :: (.tok 91 2 [(sv a)]) :: G = g ∧ vZ p1 h p0 M J ad ae p2 p3 ac N n o p t s = some (y, z, A, B, C, D, E, F)) ?_ ?_
    ·obtain ⟨aO, a3, H⟩ := bnd H
     obtain ⟨aP, a4, H⟩ := bnd H
     obtain ⟨i, av, a5, H⟩ := ir H
     refine fq _ rfl (Ic Mb0 (Ic Mb1 (Ic Mb2 (Ic Mb3 (Ic Mb4 In0)))))<|Jm 0 Z<|Jm 1 Z<|Jq 2 Z (fD rfl)<|JF 3 2 Z<|Jl 4 (sv a) Z (Rb0 Z)<|Jm 5 Z<|?_
     obtain ⟨_, rfl, bp⟩ := Slr.at R a3
     refine Jq 6 Z (Qi (T := gr) R a3 Z)<|Jq 7 Z (ic (q := 0) (m := 0) rfl rfl rfl rfl rfl (by decide) rfl (by decide))<|Jl 8 (Vi aO.x0) Z (Rdc.k bp rfl)<|Jm 9 Z<|Jq 10 Z (fD rfl)<|JF 11 2 Z<|Jl 12 (sv a) Z (Rb0 Z)<|Jm 13 Z<|?_
     obtain ⟨_, rfl, bq⟩ := Slr.at R a4
     refine Jq 14 Z (Qi (T := gr) R a4 Z)<|Jq 15 Z (ic (q := 1) (m := 1) rfl rfl rfl rfl rfl (by decide) rfl (by decide))<|Jl 16 (Vi aP.x1) Z (Rdc.k bq rfl)<|?_
     refine gY 17 21 (by kernel_rfl) ?_ ?_
     ·refine id (Jy Z ?_)
      have bB := (aa.mono Y).mono an
      refine Ek Tryz.call33 Z (qw p1 b aO.x0 aP.x1 i av a5 _ _ bB) ?_
      rintro _ b5 _ cq ⟨rfl, rfl⟩
      refine ⟨(Ic Mb0 (Ic Mb1 (Ic Mb2 (Ic Mb3 (Ic Mb4 In0))))), ?_⟩
      refine Jm 18 Z<|Jx 19 Z<|Jx 20 Z<|?_
      refine Ao 21 Z ?_
      refine fC (cs := (fe (Result.mk 0 0 0 false 0))) rfl rfl rfl rfl (fun bj => ⟨(Ic Mb1 (Ic Mb2 (Ic Mb3 (Ic Mb4 (Ic Mb5 In0))))), ?_⟩)
      refine Ao 22 Z ?_
      refine Sa (fe i) Z .here Z ⟨(Ic Mb1 (Ic Mb2 (Ic Mb3 (Ic Mb4 (Ic Mb5 In0))))), ?_⟩
      exact Ja 23 Z<|Ad<|Pu5<|Pu5<|Pu5<|Pu5<|Pu5<|Pu5<|Sd<|⟨_, by exact R5, bj, av, i.kind, i.case_, i.value, i.ok, i.number, rfl, rfl, H⟩
     ·refine id (Jy Z ?_)
      refine fC (cs := (fe (Result.mk 0 0 0 false 0))) rfl rfl rfl rfl (fun bk => ⟨(Ic Mb1 (Ic Mb2 (Ic Mb3 (Ic Mb4 (Ic Mb5 In0))))), ?_⟩)
      refine Ao 17 Z ?_
      have bC := (aa.mono Y).mono an
      refine Ek Tryz.call33 Z (qw p1 b aO.x0 aP.x1 i av a5 _ _ bC) ?_
      rintro _ b6 _ cr ⟨rfl, rfl⟩
      refine ⟨(Ic Mb1 (Ic Mb2 (Ic Mb3 (Ic Mb4 (Ic Mb5 In0))))), ?_⟩
      refine Jm 18 Z<|Jx 19 Z<|Jx 20 Z<|?_
      refine Ao 22 Z ?_
      refine Sa (fe i) Z .here Z ⟨(Ic Mb1 (Ic Mb2 (Ic Mb3 (Ic Mb4 (Ic Mb5 In0))))), ?_⟩
      exact Ja 23 Z<|Ad<|Pu5<|Pu5<|Pu5<|Pu5<|Pu5<|Pu5<|Sd<|⟨_, by exact R5, bk, av, i.kind, i.case_, i.value, i.ok, i.number, rfl, rfl, H⟩
    rintro _ bh _ Q ⟨ax, N, n, o, p, t, s, rfl, rfl, H⟩
    unfold vZ at H
    refine fc<|fa<|Em Z<|Em Z<|Eq Z (fD rfl)<|EF 4 Z<|El (sv L) Z (Rb1 Z)<|Em Z<|Ec Z<|?_
    have aU : RowR Ty.bool bh [[(.bool (dcd (N ≥ 0)))]] [dcd (N ≥ 0)] := RowR.cons rfl (RowR.nil)
    refine ff rfl (gk (T := Ty.bool) (rows := [[(.bool (dcd (N ≥ 0)))]]) (l := [dcd (N ≥ 0)]) rfl rfl rfl aU rfl rfl rfl rfl rfl rfl rfl rfl (fun cB => ?_))
    obtain ⟨aw, bW, H⟩ := bnd H
    have bE := a0.mono Q
    refine ff rfl (ga (T := Ty.bool) (bytes := 1) (q := 0) rfl rfl rfl bE Mb4 rfl (SrcT.row Mb0 aU rfl) bW rfl rfl rfl rfl rfl rfl rfl rfl (fun u aQ X bD => ⟨_, (.there (.there (.there (.there .here)))), ?_⟩))
    refine Ow.shift (Re0 (Sd ?_))
    refine Eq Z (fD rfl)<|EF 4 Z<|?_
    refine ff rfl (So [(sv u)] [(sv f), (sv b), (sv a), (sv e), (sv u), (sv w), (.bool p2), (.bool p3), (sv fB)] Z (.there .here) Z ?_)
    refine fb ?_
    refine fz (fun j c g => ∃ (x : SV) (S : ad6), [(1, (sv b)), (9, (Vp d)), (10, (Vi h))] = j ∧ (.blk d 76 [(sv f), (sv b), (sv a), (sv e), (sv u), (sv x), (.bool p2), (.bool p3), (sv fB)]) :: (.tok 38 5 [(sv x)]) :: (.tok 71 1 [(sv e)]) :: (.tok 4 1 [(sv u)]) :: (.tok 91 2 [(sv a)]) :: G = g ∧ vY p1 h p0 M J aw p2 p3 ac S = some (y, z, A, B, C, D, E, F) ∧ Slr fO c (sv x) S) ?_ ?_
    ·obtain ⟨be, a6, H⟩ := bnd H
     refine fq _ rfl (Ic Mb0 (Ic Mb2 (Ic Mb3 (Ic Mb5 In0))))<|Jm 0 Z<|Jm 1 Z<|Jq 2 Z (fD rfl)<|JF 3 5 Z<|JL 5 5 (fe (Result.mk n o p t s)) Z (Rb0 Z)<|?_
     refine gY 4 6 (by kernel_rfl) ?_ ?_
     ·refine id (Jyq Z (gv (v := (sv w)) rfl rfl rfl (Rb1 Z)) ⟨(Ic Mb0 (Ic Mb2 (Ic Mb3 (Ic Mb5 In0)))), ?_⟩)
      refine Ao 6 Z ?_
      have aV : RowR fO aQ [(fe (Result.mk n o p t s))] [(Result.mk n o p t s)] := RowR.cons rfl (RowR.nil)
      refine gk (T := fO) (rows := [(fe (Result.mk n o p t s))]) (l := [(Result.mk n o p t s)]) rfl rfl rfl aV rfl rfl rfl rfl rfl rfl rfl rfl (fun cC => ⟨(Ic Mb1 (Ic Mb3 (Ic Mb4 (Ic Mb6 In0)))), ?_⟩)
      refine Ao 7 Z ?_
      have bH := (aC.mono Q).mono X
      refine ga (T := fO) (bytes := 40) (q := 0) rfl rfl rfl bH Mb5 rfl (SrcT.row Mb0 aV rfl) a6 rfl rfl rfl rfl rfl rfl rfl rfl (fun aH b7 ct bG => ⟨_, (.there (.there (.there (.there (.there .here))))), ⟨(Ic Mb1 (Ic Mb3 (Ic Mb4 (Ic Mb6 In0)))), ?_⟩⟩)
      refine Aw.shift (Re0 (Sd ⟨(Ic Mb0 (Ic Mb2 (Ic Mb3 (Ic Mb5 In0)))), ?_⟩))
      refine Jq 8 Z (fD rfl)<|JF 9 5 Z<|?_
      refine Ao 10 Z ?_
      refine So [(sv aH)] [(sv f), (sv b), (sv a), (sv e), (sv u), (sv aH), (.bool p2), (.bool p3), (sv fB)] Z (.there .here) Z ⟨(Ic Mb0 (Ic Mb2 (Ic Mb3 (Ic Mb5 In0)))), ?_⟩
      exact Ad<|Pu5<|Pu4<|Pu4<|Pu5<|Pu5<|Re5<|Sd<|⟨_, by exact R3, aH, be, rfl, rfl, H, bG⟩
     ·refine id (Jy Z ?_)
      have aW : RowR fO aQ [(fe (Result.mk n o p t s))] [(Result.mk n o p t s)] := RowR.cons rfl (RowR.nil)
      refine gk (T := fO) (rows := [(fe (Result.mk n o p t s))]) (l := [(Result.mk n o p t s)]) rfl rfl rfl aW rfl rfl rfl rfl rfl rfl rfl rfl (fun cD => ⟨(Ic Mb1 (Ic Mb3 (Ic Mb4 (Ic Mb6 In0)))), ?_⟩)
      refine gB 4 (by kernel_rfl) (Jyq Z (gv (v := (sv w)) rfl rfl rfl (Rb2 Z)) ⟨(Ic Mb1 (Ic Mb3 (Ic Mb4 (Ic Mb6 In0)))), ?_⟩)
      refine Ao 7 Z ?_
      have bJ := (aC.mono Q).mono X
      refine ga (T := fO) (bytes := 40) (q := 0) rfl rfl rfl bJ Mb5 rfl (SrcT.row Mb0 aW rfl) a6 rfl rfl rfl rfl rfl rfl rfl rfl (fun aI b8 cu bI => ⟨_, (.there (.there (.there (.there (.there .here))))), ⟨(Ic Mb1 (Ic Mb3 (Ic Mb4 (Ic Mb6 In0)))), ?_⟩⟩)
      refine Aw.shift (Re0 (Sd ⟨(Ic Mb0 (Ic Mb2 (Ic Mb3 (Ic Mb5 In0)))), ?_⟩))
      refine Jq 8 Z (fD rfl)<|JF 9 5 Z<|?_
      refine Ao 10 Z ?_
      refine So [(sv aI)] [(sv f), (sv b), (sv a), (sv e), (sv u), (sv aI), (.bool p2), (.bool p3), (sv fB)] Z (.there .here) Z ⟨(Ic Mb0 (Ic Mb2 (Ic Mb3 (Ic Mb5 In0)))), ?_⟩
      exact Ad<|Pu5<|Pu4<|Pu4<|Pu5<|Pu5<|Re5<|Sd<|⟨_, by exact R3, aI, be, rfl, rfl, H, bI⟩
    rintro _ b9 _ ao ⟨x, S, rfl, rfl, H, bF⟩
    unfold vY at H
    refine fc<|fa<|Em Z<|Eq Z (fD rfl)<|EF 2 Z<|El (sv a) Z (Rb0 Z)<|?_
    have a1 := ((R.mono Q).mono X).mono ao
    refine Eq Z (gg (T := gr) a1 rfl rfl) ?_
    obtain ⟨b2, bX, H⟩ := bnd H
    refine ff rfl (jx (T := Ty.bool) (r := [(.bool false)]) rfl rfl rfl bX rfl rfl rfl rfl rfl rfl rfl rfl rfl rfl (fun O b1 bm cw => ?_))
    refine Ea Z<|fb<|?_
    refine fz (fun j c g => ∃ (af : ae5) (aG : List (List Value)), [(1, (sv b)), (9, (Vp d)), (10, (Vi h)), (13, (sv O))] = j ∧ (.blk d 76 [(sv f), (sv b), (sv a), (sv e), (sv u), (sv x), (.bool p2), (.bool p3), (sv fB)]) :: (.row (sv O) 4 1 aG.flatten) :: (.tok 38 5 [(sv x)]) :: (.tok 71 1 [(sv e)]) :: (.tok 4 1 [(sv u)]) :: (.tok 91 2 [(sv a)]) :: G = g ∧ vW p1 h p0 M J aw S p2 p3 ac af = some (y, z, A, B, C, D, E, F) ∧ RowR Ty.bool c aG af) ?_ ?_
    ·refine fc<|fa<|Ea Z<|fb<|fA<|?_
     refine f7 (fun bb j c g => ∃ (U : ae5) (ag : List (List Value)) (I : Int), [(1, (sv b)), (9, (Vp d)), (10, (Vi h)), (13, (sv O)), (14, (Vi I))] = j ∧ (.blk d 76 [(sv f), (sv b), (sv a), (sv e), (sv u), (sv x), (.bool p2), (.bool p3), (sv fB)]) :: (.row (sv O) 4 1 ag.flatten) :: (.tok 38 5 [(sv x)]) :: (.tok 71 1 [(sv e)]) :: (.tok 4 1 [(sv u)]) :: (.tok 91 2 [(sv a)]) :: G = g ∧ lp2 (vX p1 h p0 M J aw S p2 p3 ac) bb U I = some (y, z, A, B, C, D, E, F) ∧ RowR Ty.bool c ag U) BIG ?_ ?_
     ·exact Pu5<|Pu5<|Pu5<|Pu5<|Pu4<|Pu5<|Sd<|⟨_, by exact R5, b2, b1, 0, rfl, rfl, H, bm⟩
     rintro bb _ ca _ aS ⟨U, ag, I, rfl, rfl, H, aX⟩
     obtain ⟨cz, cx, rfl, bu, H⟩ := jL H
     unfold vX at H
     refine fc<|fc<|fa<|Em Z<|Em Z<|Eq Z (fD rfl)<|EF 2 Z<|El (sv a) Z (Rb0 Z)<|?_
     have ab := a1.mono aS
     refine Eq Z (gg (T := gr) ab rfl rfl)<|Ec Z<|fb<|?_
     refine fm rfl ?_ ?_
     ·intro W
      obtain ⟨W, H⟩ := It W H
      refine ft<|fc<|fA<|?_
      obtain ⟨bf, a7, H⟩ := bnd H
      obtain ⟨bg, a8, H⟩ := bnd H
      obtain ⟨P, bY, H⟩ := bnd H
      obtain ⟨cF, a9, H⟩ := bnd H
      refine fq _ rfl (Ic Mb0 (Ic Mb2 (Ic Mb3 (Ic Mb4 (Ic Mb5 In0)))))<|Jm 0 Z<|Jm 1 Z<|Jm 2 Z<|Jm 3 Z<|Jq 4 Z (fD rfl)<|JF 5 2 Z<|Jl 6 (sv a) Z (Rb0 Z)<|Jm 7 Z<|?_
      obtain ⟨_, rfl, br⟩ := Slr.at ab a7
      refine Jq 8 Z (Qi (T := gr) ab a7 Z)<|JL 9 2 (gb bf) Z (Rdc.k br rfl)<|Jm 10 Z<|Jq 11 Z (fD rfl)<|JF 12 2 Z<|Jl 13 (sv a) Z (Rb0 Z)<|Jm 14 Z<|?_
      obtain ⟨_, rfl, bs⟩ := Slr.at ab a8
      refine Jq 15 Z (Qi (T := gr) ab a8 Z)<|JL 16 2 (gb bg) Z (Rdc.k bs rfl)<|?_
      refine Ao 17 Z ?_
      have bK := (((((aa.mono Y).mono an).mono Q).mono X).mono ao).mono aS
      refine Ek Tryz.call35 Z (lr p1 b bf bg P bY _ _ bK) ?_
      rintro _ cb _ bl ⟨rfl, rfl⟩
      refine ⟨(Ic Mb0 (Ic Mb2 (Ic Mb3 (Ic Mb4 (Ic Mb5 In0))))), ?_⟩
      have ap := aX.mono bl
      obtain ⟨cA, aB, bw⟩ := RowR.at ap a9
      obtain rfl := bw
      refine gB 18 (by kernel_rfl) (Jyq Z (gz (T := Ty.bool) Mb1 ap aB (fL a9).1 rfl rfl rfl rfl rfl) ⟨(Ic Mb0 (Ic Mb2 (Ic Mb3 (Ic Mb4 (Ic Mb5 In0))))), ?_⟩)
      refine Ao 19 Z ?_
      refine gP (T := Ty.bool) (vs := [(.bool P)]) (r' := [(.bool P)]) (l' := (f8 U I P)) rfl rfl rfl rfl rfl (.there .here) ap aB rfl rfl rfl (RowR.set I ap rfl) (fun bo => ⟨(Ic Mb0 (Ic Mb2 (Ic Mb3 (Ic Mb4 (Ic Mb5 In0))))), ?_⟩)
      have cp := iO aB (v := [(.bool P)])
      exact Ad<|fa<|Em Z<|Er (wI (I + 1)) Z<|Ea Z<|fb<|Pu5<|Pu5<|Pu5<|Pu5<|Pu5<|Pu5<|Sd<|⟨_, by exact R5, _, Nat.lt_succ_self _, (f8 U I P), (ag.set I.toNat [(.bool P)]), (wI (I + 1)), rfl, rfl, (bu ▸ H), bo⟩
     ·intro W
      obtain ⟨W, H⟩ := If W H
      exact f9<|Pu5<|Pu5<|Pu5<|Pu5<|Pu5<|Pu5<|Sd<|⟨_, by exact R4, U, ag, rfl, rfl, H, aX⟩
    rintro _ cc _ ay ⟨af, aG, rfl, rfl, H, bn⟩
    unfold vW at H
    refine fa<|Em Z<|Em Z<|Eq Z (fD rfl)<|EF 3 Z<|El (sv e) Z (Rb0 Z)<|Em Z<|?_
    refine Ow.shift (Shift.settle (T := Ty.bool) (.there .here) bn rfl (fun bi az bL => Sd ?_))
    have aY : RowR (Ty.sl Ty.bool) bi [[(sv O)]] [af] := RowR.cons ⟨O, rfl, bL⟩ (RowR.nil)
    refine ff rfl (gk (T := (Ty.sl Ty.bool)) (rows := [[(sv O)]]) (l := [af]) rfl rfl rfl aY rfl rfl rfl rfl rfl rfl rfl rfl (fun cE => ?_))
    obtain ⟨b3, bZ, H⟩ := bnd H
    have bN := ((((aZ.mono Q).mono X).mono ao).mono ay).mono az
    refine ff rfl (ga (T := (Ty.sl Ty.bool)) (bytes := 24) (q := 0) rfl rfl rfl bN Mb4 rfl (SrcT.row Mb0 aY rfl) bZ rfl rfl rfl rfl rfl rfl rfl rfl (fun aJ cd aT bM => ⟨_, (.there (.there (.there (.there .here)))), ?_⟩))
    refine Ow.shift (Re0 (Sd ?_))
    refine Eq Z (fD rfl)<|EF 3 Z<|?_
    refine ff rfl (So [(sv aJ)] [(sv f), (sv b), (sv a), (sv aJ), (sv u), (sv x), (.bool p2), (.bool p3), (sv fB)] Z .here Z ?_)
    refine fb<|Pu5<|Pu3<|Pu5<|Pu5<|Pu4<|Re5<|?_
    have bO := (((bD.mono ao).mono ay).mono az).mono aT
    have bP := ((bF.mono ay).mono az).mono aT
    exact Sd ⟨_, by exact R3, aJ, b3, u, aw, x, S, rfl, rfl, H, bM, bO, bP⟩
   rintro _ ce _ cv ⟨ah, aq, ai, ar, aj, au, rfl, rfl, H, bx, bz, bA⟩
   unfold vV at H
   exact fa<|Em Z<|Er (wI (h + 1)) Z<|Ea Z<|fb<|Pu4<|Pu4<|Pu4<|Pu4<|Pu4<|Sd<|⟨_, by exact R3, _, Nat.lt_succ_self _, (wI (h + 1)), ah, aq, ai, ar, aj, au, rfl, rfl, (bt ▸ H), bx, bz, bA⟩
  ·intro V
   obtain ⟨V, H⟩ := If V H
   exact f9<|Pu4<|Pu4<|Pu4<|Pu4<|Pu4<|Sd<|⟨_, by exact R1, e, J, L, ad, w, ae, rfl, rfl, H, aZ, a0, aC⟩
 rintro _ cf _ aA ⟨ak, aD, al, aE, am, aF, rfl, rfl, H, bT, bU, bV⟩
 unfold vU at H
 refine fc<|fa<|Em Z<|Ea Z<|fb<|fx<|?_
 obtain ⟨ch, ci, cj, ck, cl, cm, cn, co⟩ := inj8 H
 subst y z A B C D E F
 refine ⟨(.inl rfl), [(Vp d)], ⟨(Vp d), _, rfl, rfl, rfl⟩, ?_⟩
 refine Pu3<|Pu3<|Pu3<|Pu4<|Pu4<|?_
 have bQ := (bv.mono Y).mono aA
 have bR := (aa.mono Y).mono aA
 have bS := a2.mono aA
 exact Sd ⟨d, f, b, a, ak, al, am, rfl, rfl, bQ, bR, bS, bT, bU, bV⟩
theorem ny (j : Nat) (F : ae3) (g : SV) (E : ad4) (s : SV) (D : ae1) (c : SV) (C : af5) (r : SV) (B : ae5) (p : SV) (I : ad6) (t : SV) (l : Bool) (n : Bool) (J : ae0) (h : SV) (o : List (List Value)) (p1 : Int) (e : Op) (H : nh F E D C B I l n J p1 = some e) (K : Kp) (G : List Ent) (u : Slr (Ty.sl gC) K (sv g) F) (af : Slr f4 K (sv s) E) (f : Slr gr K (sv c) D) (ae : Slr (Ty.sl Ty.bool) K (sv r) C) (ad : Slr Ty.bool K (sv p) B) (ag : Slr fO K (sv t) I) (ah : RowR Ty.str K o J) :
  Fc Tryz.prog 52 #[(Vp j), (Vi p1)] K ((.blk j 76 [(sv g), (sv s), (sv c), (sv r), (sv p), (sv t), (.bool l), (.bool n), (sv h)]) :: (.row (sv h) 9 1 o.flatten) :: G) (fun v i N => ∃ (L : SV) (M : SV), v = (.agg (fh e L M).toArray) ∧ K = i ∧ (.blk j 76 [(sv g), (sv s), (sv c), (sv r), (sv p), (sv t), (.bool l), (.bool n), (sv h)]) :: (.row (sv h) 9 1 o.flatten) :: G = N ∧ Slr fW i (sv L) e.cases ∧ Slr Ty.i64 i (sv M) e.draws) := by
 refine fN Tryz.func52 rfl Tryz.ntmps52 Tryz.results52 rfl ?_
 unfold nh at H
 refine fc<|fa<|?_
 refine ff rfl (fC (cs := (fh (Op.mk 0 0 0 0 0 [] []) fB fB)) rfl rfl rfl rfl (fun ab => ?_))
 refine fb<|fc<|?_
 obtain ⟨Y, x, H⟩ := bnd H
 obtain ⟨ak, y, H⟩ := bnd H
 obtain ⟨aa, z, H⟩ := bnd H
 obtain ⟨d, A, H⟩ := bnd H
 refine fq _ rfl (Ic Mb1 (Ic Mb2 In0))<|Jm 0 Z<|Jq 1 Z (fD rfl)<|JF 2 0 Z<|Jl 3 (sv g) Z (Rb0 Z)<|Jm 4 Z<|Jq 5 Z (fD rfl)<|JF 6 2 Z<|Jl 7 (sv c) Z (Rb0 Z)<|Jm 8 Z<|?_
 obtain ⟨_, rfl, O⟩ := Slr.at f x
 refine Jq 9 Z (Qi (T := gr) f x Z)<|Jq 10 Z (ic (q := 0) (m := 0) rfl rfl rfl rfl rfl (by decide) rfl (by decide))<|Jl 11 (Vi Y.x0) Z (Rdc.k O rfl)<|?_
 obtain ⟨ai, S, P⟩ := Slr.at u y
 obtain ⟨X, rfl, w⟩ := S
 refine Jq 12 Z (Qi (T := (Ty.sl gC)) u y Z)<|Jl 13 (sv X) Z (Rdc.k P rfl)<|Jm 14 Z<|Jq 15 Z (fD rfl)<|JF 16 2 Z<|Jl 17 (sv c) Z (Rb0 Z)<|Jm 18 Z<|?_
 obtain ⟨_, rfl, Q⟩ := Slr.at f z
 refine Jq 19 Z (Qi (T := gr) f z Z)<|Jq 20 Z (ic (q := 1) (m := 1) rfl rfl rfl rfl rfl (by decide) rfl (by decide))<|Jl 21 (Vi aa.x1) Z (Rdc.k Q rfl)<|?_
 obtain ⟨aj, U, R⟩ := Slr.at w A
 obtain ⟨a, b, rfl, V, W⟩ := U
 refine Jq 22 Z (Qi (T := gC) w A Z)<|JL 23 7 (fh d a b) Z (Rdc.k R rfl)<|?_
 refine Ao 24 Z ?_
 refine Sa (fh d a b) Z .here Z ⟨(Ic Mb1 (Ic Mb2 In0)), ?_⟩
 refine Ad<|fx<|?_
 obtain ac := gn H
 subst e
 refine ⟨(.inl rfl), [(.agg (fh d a b).toArray)], ⟨(.agg (fh d a b).toArray), _, rfl, ⟨_, 7, (fh d a b), rfl, rfl, rfl, rfl, ⟨rfl, Rb0 Z⟩, rfl⟩, rfl⟩, ?_⟩
 exact Pu2<|Pu2<|Re2<|Sd<|⟨a, b, rfl, rfl, rfl, V, W⟩
end Go.Hx
namespace Go.Hx
open Go Go.Proofs
set_option maxRecDepth 10000
set_option maxHeartbeats 1000000
theorem ye (p0 : ad0) (i : SV) (p1 : Op) (g : SV) (h : SV) (j : ad6) (H : oY p0 p1 = some j) (K : Kp) (G : List Ent) (aa : Slr fF K (sv i) p0) (au : Slr fW K (sv g) p1.cases) (av : Slr Ty.i64 K (sv h) p1.draws) :
  Fc Tryz.prog 84 #[(sv i), (.agg (fh p1 g h).toArray)] K (G) (fun v b c => ∃ (ak : SV), v = (sv ak) ∧ (.tok 38 5 [(sv ak)]) :: G = c ∧ Slr fO b (sv ak) j) := by
 refine fN Tryz.func84 rfl Tryz.ntmps84 Tryz.results84 rfl ?_
 unfold oY at H
 refine fc<|fa<|?_
 refine ff rfl (fR (cs := (fh p1 g h)) rfl rfl rfl (fun e => ?_))
 refine Ea Z<|fb<|fc<|fa<|Ea Z<|Ea Z<|fb<|?_
 refine fz (fun d b c => ∃ (Q : SV) (M : ad6) (O : List (List Value)), [(0, (sv i)), (3, (Vp e)), (5, (sv Q)), (6, (sv fB))] = d ∧ K = b ∧ (.blk e 51 (fh p1 g h)) :: (.row (sv Q) 38 5 O.flatten) :: G = c ∧ oW p0 p1 M = some j ∧ RowR fO b O M) ?_ ?_
 ·refine fc<|fa<|EF 0 Z<|El (Vi p1.kind) Z (Rb0 Z)<|Ec Z<|fb<|?_
  refine fm rfl ?_ ?_
  ·intro z
   obtain ⟨z, H⟩ := It z H
   refine fa<|Eq Z (fH (cs := (fe (Result.mk 6 (-1) 0 false 0))) rfl rfl rfl rfl rfl rfl)<|Eq Z (fH (cs := (fe (Result.mk 5 (-1) 0 false 0))) rfl rfl rfl rfl rfl rfl)<|?_
   have am : RowR fO K [(fe (Result.mk 6 (-1) 0 false 0)), (fe (Result.mk 5 (-1) 0 false 0))] [(Result.mk 6 (-1) 0 false 0), (Result.mk 5 (-1) 0 false 0)] := RowR.cons rfl (RowR.cons rfl (RowR.nil))
   refine ff rfl (gk (T := fO) (rows := [(fe (Result.mk 6 (-1) 0 false 0)), (fe (Result.mk 5 (-1) 0 false 0))]) (l := [(Result.mk 6 (-1) 0 false 0), (Result.mk 5 (-1) 0 false 0)]) rfl rfl rfl am rfl rfl rfl rfl rfl rfl rfl rfl (fun bq => ?_))
   exact Ea Z<|fb<|Pu1<|Sd<|⟨_, by exact R4, bq, [(Result.mk 6 (-1) 0 false 0), (Result.mk 5 (-1) 0 false 0)], [(fe (Result.mk 6 (-1) 0 false 0)), (fe (Result.mk 5 (-1) 0 false 0))], rfl, rfl, rfl, H, am⟩
  ·intro z
   obtain ⟨z, H⟩ := If z H
   refine ft ?_
   have aP : RowR fO K [] [] := RowR.nil
   exact Shift.nilRow 38 5<|Pu1<|Sd<|⟨_, by exact R4, fB, ([] : ad6), ([] : List (List Value)), rfl, rfl, rfl, H, aP⟩
 rintro _ _ _ - ⟨Q, M, O, rfl, rfl, rfl, H, aO⟩
 unfold oW at H
 refine fc<|fa<|EL 7 (fh p1 g h) Z (Rb0 Z)<|?_
 obtain ⟨I, bh, H⟩ := bnd H
 refine ff rfl (Ek Tryz.call44 Z (lu p1 g h I bh _ _ au av) ?_)
 rintro _ o _ u ⟨R, rfl, rfl, m⟩
 refine Ea Z<|fb<|?_
 refine fz (fun d b c => ∃ (E : SV) (N : ad6) (P : List (List Value)), [(0, (sv i)), (3, (Vp e)), (5, (sv E)), (6, (sv fB))] = d ∧ (.blk e 51 (fh p1 g h)) :: (.row (sv E) 38 5 P.flatten) :: G = c ∧ rY p0 p1 N = some j ∧ RowR fO b P N) ?_ ?_
 ·refine fc<|fa<|Ea Z<|fb<|fA<|?_
  refine f7 (fun aK d b c => ∃ (n : SV) (r : ad6) (s : List (List Value)) (f : Int), [(0, (sv i)), (3, (Vp e)), (5, (sv n)), (6, (sv fB)), (7, (sv R)), (8, (Vi f))] = d ∧ o = b ∧ (.blk e 51 (fh p1 g h)) :: (.row (sv n) 38 5 s.flatten) :: G = c ∧ lp2 (rZ p0 I p1) aK r f = some j ∧ RowR fO b s r) BIG ?_ ?_
  ·refine Pu1<|Pu1<|?_
   have bd := aO.mono u
   exact Sd ⟨_, by exact R6, Q, M, O, 0, rfl, rfl, rfl, H, bd⟩
  rintro aK _ _ _ - ⟨n, r, s, f, rfl, rfl, rfl, H, L⟩
  obtain ⟨bS, ae, rfl, ar, H⟩ := jL H
  unfold rZ at H
  refine fc<|fc<|fa<|Em Z<|Em Z<|Eq Z (gg (T := fW) m rfl rfl)<|Ec Z<|fb<|?_
  refine fm rfl ?_ ?_
  ·intro A
   obtain ⟨A, H⟩ := It A H
   refine ft<|fc<|fA<|fc<|fa<|Ea Z<|fb<|?_
   refine fz (fun d b c => ∃ (a : Int), [(0, (sv i)), (3, (Vp e)), (5, (sv n)), (6, (sv fB)), (7, (sv R)), (8, (Vi f)), (9, (Vi a))] = d ∧ o = b ∧ (.blk e 51 (fh p1 g h)) :: (.row (sv n) 38 5 s.flatten) :: G = c ∧ oV p0 r I f p1 ae a = some j) ?_ ?_
   ·refine fc<|fa<|EF 0 Z<|El (Vi p1.kind) Z (Rb0 Z)<|Ec Z<|fb<|?_
    refine fm rfl ?_ ?_
    ·intro B
     obtain ⟨B, H⟩ := It B H
     exact fa<|Em Z<|Ea Z<|fb<|Pu1<|Pu1<|Sd<|⟨_, by exact R7, f, rfl, rfl, rfl, H⟩
    ·intro B
     obtain ⟨B, H⟩ := If B H
     exact ft<|Pu1<|Pu1<|Sd<|⟨_, by exact R7, (-1), rfl, rfl, rfl, H⟩
   rintro _ _ _ - ⟨a, rfl, rfl, rfl, H⟩
   unfold oV at H
   refine fc<|fc<|fa<|Em Z<|Em Z<|?_
   obtain ⟨bA, aC, H⟩ := bnd H
   obtain ⟨_, rfl, aV⟩ := Slr.at m aC
   refine Eq Z (Qi (T := fW) m aC Z)<|EF 0 Z<|El (.bool bA.send) Z (Rdc.k aV rfl)<|fb<|?_
   refine fm rfl ?_ ?_
   ·intro U
    have H := ift U H
    refine fc<|fa<|Em Z<|Em Z<|Eq Z (fH (cs := (fe (Result.mk 5 a 0 false 0))) rfl rfl rfl rfl rfl rfl)<|Em Z<|Eq Z (fH (cs := (fe (Result.mk 1 a 0 false 0))) rfl rfl rfl rfl rfl rfl)<|?_
    have an : RowR fO o [(fe (Result.mk 5 a 0 false 0)), (fe (Result.mk 1 a 0 false 0))] [(Result.mk 5 a 0 false 0), (Result.mk 1 a 0 false 0)] := RowR.cons rfl (RowR.cons rfl (RowR.nil))
    refine ff rfl (gk (T := fO) (rows := [(fe (Result.mk 5 a 0 false 0)), (fe (Result.mk 1 a 0 false 0))]) (l := [(Result.mk 5 a 0 false 0), (Result.mk 1 a 0 false 0)]) rfl rfl rfl an rfl rfl rfl rfl rfl rfl rfl rfl (fun bZ => ?_))
    obtain ⟨bB, bi, H⟩ := bnd H
    refine ff rfl (gZ (T := fO) (bytes := 40) rfl rfl rfl Mb2 L (SrcT.row Mb0 an rfl) bi rfl rfl rfl rfl rfl rfl rfl rfl (fun br bm aR => ⟨_, (.there (.there .here)), ?_⟩))
    refine Ow.shift (Re0 (Sd ?_))
    exact Ea Z<|fb<|f9<|fa<|Em Z<|Er (wI (f + 1)) Z<|Ea Z<|fb<|Pu1<|Pu1<|Sd<|⟨_, by exact R6, _, Nat.lt_succ_self _, br, bB, bm, (wI (f + 1)), rfl, rfl, rfl, (ar ▸ H), aR⟩
   ·intro U
    have H := fX (btf U) H
    refine ft ?_
    refine fz (fun d b c => ∃ (aj : SV) (ag : ad6) (ah : List (List Value)), [(0, (sv i)), (3, (Vp e)), (5, (sv aj)), (6, (sv fB)), (7, (sv R)), (8, (Vi f)), (9, (Vi a))] = d ∧ o = b ∧ (.blk e 51 (fh p1 g h)) :: (.row (sv aj) 38 5 ah.flatten) :: G = c ∧ oU p0 I f a p1 ae ag = some j ∧ RowR fO b ah ag) ?_ ?_
    ·refine fz (fun d b c => ∃ (ai : Bool), [(0, (sv i)), (3, (Vp e)), (5, (sv n)), (6, (sv fB)), (7, (sv R)), (8, (Vi f)), (9, (Vi a)), (62, (.bool ai))] = d ∧ o = b ∧ (.blk e 51 (fh p1 g h)) :: (.row (sv n) 38 5 s.flatten) :: G = c ∧ s1 p0 r I f a p1 ae ai = some j) ?_ ?_
     ·refine fa<|Em Z<|Em Z<|Em Z<|?_
      obtain ⟨aM, aD, H⟩ := bnd H
      obtain ⟨_, rfl, aW⟩ := Slr.at m aD
      refine Eq Z (Qi (T := fW) m aD Z)<|EF 1 Z<|El (Vi aM.channel) Z (Rdc.k aW rfl)<|?_
      obtain ⟨bC, bj, H⟩ := bnd H
      have ad := aa.mono u
      refine ff rfl (Ek Tryz.call107 Z (lS p0 i aM.channel bC bj _ _ ad) ?_)
      rintro _ _ _ - ⟨rfl, rfl, rfl⟩
      refine Em Z ?_
      refine Ee Z ?_ ?_
      ·intro V
       have H := ift V H
       refine Vm Z<|Vm Z<|Vm Z<|?_
       obtain ⟨bD, aE, H⟩ := bnd H
       obtain ⟨_, rfl, aX⟩ := Slr.at m aE
       refine Vq Z (Qi (T := fW) m aE Z)<|VF 1 Z<|Vl (Vi bD.channel) Z (Rdc.k aX rfl)<|?_
       obtain ⟨bE, aF, H⟩ := bnd H
       obtain ⟨bV, a4, aY⟩ := Slr.at ad aF
       obtain ⟨bs, rfl, be⟩ := a4
       exact Vq Z (Qi (T := fF) ad aF Z)<|VF 1 Z<|Vl (sv bs) Z (Rdc.k aY rfl)<|Vq Z (gg (T := Ty.u64) be rfl rfl)<|Vc Z<|Et Z<|fb<|Pu1<|Pu1<|Sd<|⟨_, by exact R8, (dcd ((bE.buffer.length : Int) > 0)), rfl, rfl, rfl, H⟩
      ·intro V
       have H := fX (btf V) H
       exact Ez Z<|Ez Z<|Ez Z<|Ez Z<|Ez Z<|Ez Z<|Ez Z<|Ez Z<|Ez Z<|Ez Z<|Ez Z<|Ef Z<|fb<|Pu1<|Pu1<|Sd<|⟨_, by exact R8, false, rfl, rfl, rfl, H⟩
     rintro _ _ _ - ⟨ai, rfl, rfl, rfl, H⟩
     unfold s1 at H
     refine fm rfl ?_ ?_
     ·intro W
      have H := ift W H
      refine fa<|Em Z<|Em Z<|Em Z<|Em Z<|Em Z<|?_
      obtain ⟨bF, aG, H⟩ := bnd H
      obtain ⟨_, rfl, aZ⟩ := Slr.at m aG
      refine Eq Z (Qi (T := fW) m aG Z)<|EF 1 Z<|El (Vi bF.channel) Z (Rdc.k aZ rfl)<|?_
      obtain ⟨b2, aH, H⟩ := bnd H
      have ay := aa.mono u
      obtain ⟨bW, a5, a0⟩ := Slr.at ay aH
      obtain ⟨bt, rfl, az⟩ := a5
      refine Eq Z (Qi (T := fF) ay aH Z)<|EF 1 Z<|El (sv bt) Z (Rdc.k a0 rfl)<|?_
      obtain ⟨x, aI, H⟩ := bnd H
      obtain ⟨_, rfl, a1⟩ := Slr.at az aI
      refine Eq Z (Qi (T := Ty.u64) az aI Z)<|El (.int .u64 x) Z (Rdc.k a1 rfl)<|Eq Z (fH (cs := (fe (Result.mk 2 a x true 0))) rfl rfl rfl rfl rfl rfl)<|?_
      have ao : RowR fO o [(fe (Result.mk 2 a x true 0))] [(Result.mk 2 a x true 0)] := RowR.cons rfl (RowR.nil)
      refine ff rfl (gk (T := fO) (rows := [(fe (Result.mk 2 a x true 0))]) (l := [(Result.mk 2 a x true 0)]) rfl rfl rfl ao rfl rfl rfl rfl rfl rfl rfl rfl (fun b0 => ?_))
      obtain ⟨bG, bk, H⟩ := bnd H
      refine ff rfl (gZ (T := fO) (bytes := 40) rfl rfl rfl Mb2 L (SrcT.row Mb0 ao rfl) bk rfl rfl rfl rfl rfl rfl rfl rfl (fun bu bn aT => ⟨_, (.there (.there .here)), ?_⟩))
      refine Ow.shift (Re0 (Sd ?_))
      exact Ea Z<|fb<|Pu1<|Pu1<|Sd<|⟨_, by exact R7, bu, bG, bn, rfl, rfl, rfl, H, aT⟩
     ·intro W
      have H := fX (btf W) H
      exact ft<|Pu1<|Pu1<|Sd<|⟨_, by exact R7, n, r, s, rfl, rfl, rfl, H, L⟩
    rintro _ _ _ - ⟨aj, ag, ah, rfl, rfl, rfl, H, aS⟩
    unfold oU at H
    refine fa<|Em Z<|Em Z<|Eq Z (fH (cs := (fe (Result.mk 2 a 0 false 0))) rfl rfl rfl rfl rfl rfl)<|?_
    have ap : RowR fO o [(fe (Result.mk 2 a 0 false 0))] [(Result.mk 2 a 0 false 0)] := RowR.cons rfl (RowR.nil)
    refine ff rfl (gk (T := fO) (rows := [(fe (Result.mk 2 a 0 false 0))]) (l := [(Result.mk 2 a 0 false 0)]) rfl rfl rfl ap rfl rfl rfl rfl rfl rfl rfl rfl (fun b1 => ?_))
    obtain ⟨bH, bl, H⟩ := bnd H
    refine ff rfl (gZ (T := fO) (bytes := 40) rfl rfl rfl Mb2 aS (SrcT.row Mb0 ap rfl) bl rfl rfl rfl rfl rfl rfl rfl rfl (fun bv bo aU => ⟨_, (.there (.there .here)), ?_⟩))
    refine Ow.shift (Re0 (Sd ?_))
    exact Ea Z<|fb<|fa<|Em Z<|Er (wI (f + 1)) Z<|Ea Z<|fb<|Pu1<|Pu1<|Sd<|⟨_, by exact R6, _, Nat.lt_succ_self _, bv, bH, bo, (wI (f + 1)), rfl, rfl, rfl, (ar ▸ H), aU⟩
  ·intro A
   obtain ⟨A, H⟩ := If A H
   exact f9<|Pu1<|Pu1<|Sd<|⟨_, by exact R4, n, r, s, rfl, rfl, H, L⟩
 rintro _ bL _ Y ⟨E, N, P, rfl, rfl, H, aQ⟩
 unfold rY at H
 refine fz (fun d b c => ∃ (t : SV) (af : ad6), [(6, (sv t))] = d ∧ (.tok 38 5 [(sv t)]) :: G = c ∧ wd af = some j ∧ Slr fO b (sv t) af) ?_ ?_
 ·refine fc<|fa<|Ea Z<|fb<|fA<|?_
  refine f7 (fun aJ d b c => ∃ (w : SV) (D : ad6) (p : Int), [(0, (sv i)), (3, (Vp e)), (5, (sv E)), (6, (sv w)), (10, (Vi p))] = d ∧ (.blk e 51 (fh p1 g h)) :: (.tok 38 5 [(sv w)]) :: (.row (sv E) 38 5 P.flatten) :: G = c ∧ lp2 (rX p0 N p1) aJ D p = some j ∧ Slr fO b (sv w) D) BIG ?_ ?_
  ·exact Shift.nilTok1 38 5<|Pu2<|Pu1<|Pu2<|Sd<|⟨_, by exact R5, fB, ([] : ad6), 0, rfl, rfl, H, (Slr.nil fO _)⟩
  rintro aJ _ bI _ J ⟨w, D, p, rfl, rfl, H, ab⟩
  obtain ⟨bR, bQ, rfl, aq, H⟩ := jL H
  unfold rX at H
  refine fc<|fc<|fa<|Em Z<|Em Z<|?_
  have C := aQ.mono J
  refine Eq Z (ln (T := fO) Mb2 C rfl rfl rfl)<|Ec Z<|fb<|?_
  refine fm rfl ?_ ?_
  ·intro y
   obtain ⟨y, H⟩ := It y H
   refine ft<|fc<|fA<|fc<|?_
   obtain ⟨aL, aA, H⟩ := bnd H
   obtain ⟨bw, bx, bf, H⟩ := ir H
   refine fq _ rfl (Ic Mb0 (Ic Mb1 (Ic Mb2 In0)))<|Jm 0 Z<|JL 1 7 (fh p1 g h) Z (Rb0 Z)<|Jm 2 Z<|Jm 3 Z<|?_
   obtain ⟨bT, aw, a2⟩ := RowR.at C aA
   obtain rfl := a2
   refine Jq 4 Z (gz (T := fO) Mb2 C aw (fL aA).1 rfl rfl rfl rfl rfl)<|JL 5 5 (fe aL) Z (gQ (T := fO) Mb2 C aw rfl rfl)<|?_
   refine Ao 6 Z ?_
   have a7 := ((aa.mono u).mono Y).mono J
   have a8 := ((au.mono u).mono Y).mono J
   have a9 := ((av.mono u).mono Y).mono J
   refine Ek Tryz.call51 Z (qt p0 i p1 g h aL bw bx bf _ _ a7 a8 a9) ?_
   rintro _ aN _ X ⟨bX, rfl, rfl, bP⟩
   refine ⟨(Ic Mb0 (Ic Mb1 (Ic Mb2 In0))), ?_⟩
   refine Jm 7 Z<|Jx 8 Z<|Jx 9 Z<|Ja 10 Z<|Ja 11 Z<|Ad<|fc<|fa<|Em Z<|fb<|?_
   refine fm rfl ?_ ?_
   ·intro S
    have H := ift S H
    refine fa<|Em Z<|Em Z<|Em Z<|?_
    obtain ⟨F, aB, H⟩ := bnd H
    have ac := C.mono X
    obtain ⟨bU, ax, a3⟩ := RowR.at ac aB
    obtain rfl := a3
    refine Eq Z (gz (T := fO) Mb2 ac ax (fL aB).1 rfl rfl rfl rfl rfl)<|EL 5 (fe F) Z (gQ (T := fO) Mb2 ac ax rfl rfl)<|?_
    have al : RowR fO aN [(fe F)] [F] := RowR.cons rfl (RowR.nil)
    refine ff rfl (gk (T := fO) (rows := [(fe F)]) (l := [F]) rfl rfl rfl al rfl rfl rfl rfl rfl rfl rfl rfl (fun bY => ?_))
    obtain ⟨bz, bg, H⟩ := bnd H
    have bb := ab.mono X
    refine ff rfl (ga (T := fO) (bytes := 40) (q := 0) rfl rfl rfl bb Mb2 rfl (SrcT.row Mb0 al rfl) bg rfl rfl rfl rfl rfl rfl rfl rfl (fun bp bJ bN ba => ⟨_, (.there (.there .here)), ?_⟩))
    refine Ow.shift (Re0 (Sd ?_))
    exact Ea Z<|fb<|fa<|Em Z<|Er (wI (p + 1)) Z<|Ea Z<|fb<|Pu2<|Pu2<|Pu2<|Sd<|⟨_, by exact R5, _, Nat.lt_succ_self _, bp, bz, (wI (p + 1)), rfl, rfl, (aq ▸ H), ba⟩
   ·intro S
    have H := fX (btf S) H
    refine ft<|fa<|Em Z<|Er (wI (p + 1)) Z<|Ea Z<|fb<|Pu2<|Pu2<|Pu2<|?_
    have bc := ab.mono X
    exact Sd ⟨_, by exact R5, _, Nat.lt_succ_self _, w, D, (wI (p + 1)), rfl, rfl, (aq ▸ H), bc⟩
  ·intro y
   obtain ⟨y, H⟩ := If y H
   exact f9<|Pu1<|Re1<|Re1<|Sd<|⟨_, by exact R1, w, D, rfl, rfl, H, ab⟩
 rintro _ bK _ bO ⟨t, af, rfl, rfl, H, a6⟩
 unfold wd at H
 refine fc<|fa<|Em Z<|Ea Z<|fb<|fx<|?_
 obtain bM := gn H
 subst j
 refine ⟨(.inl rfl), [(sv t)], ⟨(sv t), _, rfl, rfl, rfl⟩, ?_⟩
 exact Sd ⟨t, rfl, rfl, a6⟩
theorem yf (p0 : ad0) (w : SV) (p1 : Op) (o : SV) (p : SV) (p2 : Result) (p3 : Op) (q : SV) (r : SV) (p4 : Result) (b : Bool) (H : o0 p0 p1 p2 p3 p4 = some b) (K : Kp) (G : List Ent) (D : Slr fF K (sv w) p0) (S : Slr fW K (sv o) p1.cases) (U : Slr Ty.i64 K (sv p) p1.draws) (V : Slr fW K (sv q) p3.cases) (W : Slr Ty.i64 K (sv r) p3.draws) :
  Fc Tryz.prog 104 #[(sv w), (.agg (fh p1 o p).toArray), (.agg (fe p2).toArray), (.agg (fh p3 q r).toArray), (.agg (fe p4).toArray)] K (G) (fun v d c => v = (.bool b) ∧ K = d ∧ G = c) := by
 refine fN Tryz.func104 rfl Tryz.ntmps104 Tryz.results104 rfl ?_
 unfold o0 at H
 refine fc<|fa<|?_
 refine ff rfl (fR (cs := (fh p1 o p)) rfl rfl rfl (fun J => ?_))
 refine ff rfl (fR (cs := (fe p2)) rfl rfl rfl (fun L => ?_))
 refine ff rfl (fR (cs := (fh p3 q r)) rfl rfl rfl (fun M => ?_))
 refine ff rfl (fR (cs := (fe p4)) rfl rfl rfl (fun x => ?_))
 refine Ea Z<|fb<|fc<|?_
 refine fz (fun s d c => ∃ (F : Bool), [(0, (sv w)), (6, (Vp J)), (7, (Vp L)), (8, (Vp M)), (9, (Vp x)), (38, (.bool F))] = s ∧ K = d ∧ (.blk x 38 (fe p4)) :: (.blk M 51 (fh p3 q r)) :: (.blk L 38 (fe p2)) :: (.blk J 51 (fh p1 o p)) :: G = c ∧ nm p0 p4 p3 p2 p1 F = some b) ?_ ?_
 ·refine fa<|EF 0 Z<|El (Vi p2.kind) Z (Rb2 Z)<|Ec Z<|Em Z<|?_
  refine Ee Z ?_ ?_
  ·intro j
   have j := lG (ix (j))
   have H := fX j H
   refine Ez Z<|Ez Z<|Ez Z<|Et Z<|Em Z<|Ez Z<|Ez Z<|Ez Z<|Et Z<|Em Z<|Ez Z<|Ez Z<|Ez Z<|Et Z<|Em Z<|Ez Z<|Ez Z<|Ez Z<|Et Z<|fb<|Pu3<|Pu3<|?_
   exact Pu3<|Pu3<|Sd<|⟨_, by exact R6, true, rfl, rfl, rfl, H⟩
  ·intro j
   have j := lH (iw (j))
   have H := ift j H
   refine VF 0 Z<|Vl (Vi p4.kind) Z (Rb0 Z)<|Vc Z<|Ef Z<|Em Z<|?_
   refine Ee Z ?_ ?_
   ·intro l
    have l := lG (ix (l))
    have H := fX l H
    exact Ez Z<|Ez Z<|Ez Z<|Et Z<|Em Z<|Ez Z<|Ez Z<|Ez Z<|Et Z<|Em Z<|Ez Z<|Ez Z<|Ez Z<|Et Z<|fb<|Pu3<|Pu3<|Pu3<|Pu3<|Sd<|⟨_, by exact R6, true, rfl, rfl, rfl, H⟩
   ·intro l
    have l := lH (iw (l))
    have H := ift l H
    refine VL 5 (fe p2) Z (Rb2 Z) ?_
    obtain ⟨ag, ac, H⟩ := bnd H
    refine ib rfl rfl rfl rfl (Ek Tryz.call111 Z (iR p2 false false ag ac _ _ ) ?_)
    rintro _ _ _ - ⟨rfl, rfl, rfl⟩
    refine Vq Z (gi rfl)<|Ef Z<|Em Z<|?_
    refine Ee Z ?_ ?_
    ·intro m
     have m := ix m
     have H := fX (btf m) H
     exact Ez Z<|Ez Z<|Ez Z<|Et Z<|Em Z<|Ez Z<|Ez Z<|Ez Z<|Et Z<|fb<|Pu3<|Pu3<|Pu3<|Pu3<|Sd<|⟨_, by exact R6, true, rfl, rfl, rfl, H⟩
    ·intro m
     have m := iw m
     have H := ift m H
     refine VL 5 (fe p4) Z (Rb0 Z) ?_
     obtain ⟨ah, ad, H⟩ := bnd H
     refine ib rfl rfl rfl rfl (Ek Tryz.call111 Z (iR p4 true false ah ad _ _ ) ?_)
     rintro _ _ _ - ⟨rfl, rfl, rfl⟩
     refine Vq Z (gi rfl)<|Ef Z<|Em Z<|?_
     refine Ee Z ?_ ?_
     ·intro n
      have n := ix n
      have H := fX (btf n) H
      exact Ez Z<|Ez Z<|Ez Z<|Et Z<|fb<|Pu3<|Pu3<|Pu3<|Pu3<|Sd<|⟨_, by exact R6, true, rfl, rfl, rfl, H⟩
     ·intro n
      have n := iw n
      have H := ift n H
      exact VF 3 Z<|Vl (.bool p4.ok) Z (Rb0 Z)<|Vq Z (gi rfl)<|Ef Z<|fb<|Pu3<|Pu3<|Pu3<|Pu3<|Sd<|⟨_, by exact R6, (!(p4.ok)), rfl, rfl, rfl, H⟩
 rintro _ _ _ - ⟨F, rfl, rfl, rfl, H⟩
 unfold nm at H
 refine fm rfl ?_ ?_
 ·intro C
  have H := ift C H
  refine fc<|fa<|Ea Z<|fb<|fx<|?_
  obtain N := gn H
  subst b
  refine ⟨(.inl rfl), [(.bool false)], ⟨(.bool false), _, rfl, rfl, rfl⟩, ?_⟩
  exact Re0<|Re0<|Re0<|Re0<|Sd<|⟨rfl, rfl, rfl⟩
 ·intro C
  have H := fX (btf C) H
  refine ft<|fc<|fa<|EL 7 (fh p1 o p) Z (Rb3 Z)<|EL 5 (fe p2) Z (Rb2 Z)<|?_
  obtain ⟨a, ae, Y, H⟩ := ir H
  refine ff rfl (Ek Tryz.call109 Z (qq p1 o p p2 a ae Y _ _ S U) ?_)
  rintro _ _ _ - ⟨rfl, rfl, rfl⟩
  refine Em Z<|Ex Z<|Ex Z<|?_
  refine ff rfl (fC (cs := (fk (Case.mk false 0 0))) rfl rfl rfl rfl (fun I => ?_))
  refine ff rfl (Sa (fk a) Z .here Z ?_)
  refine Ea Z<|fb<|fc<|fa<|EL 7 (fh p3 q r) Z (Rb2 Z)<|EL 5 (fe p4) Z (Rb1 Z)<|?_
  obtain ⟨y, af, aa, H⟩ := ir H
  refine ff rfl (Ek Tryz.call109 Z (qq p3 q r p4 y af aa _ _ V W) ?_)
  rintro _ _ _ - ⟨rfl, rfl, rfl⟩
  refine Em Z<|Ex Z<|Ex Z<|?_
  refine ff rfl (fC (cs := (fk (Case.mk false 0 0))) rfl rfl rfl rfl (fun ai => ?_))
  refine ff rfl (Sa (fk y) Z .here Z ?_)
  refine Ea Z<|fb<|fc<|?_
  refine fz (fun s d c => ∃ (E : Bool), [(0, (sv w)), (9, (Vp x)), (11, (Vp I)), (79, (.bool E))] = s ∧ K = d ∧ (.blk I 108 (fk a)) :: (.blk x 38 (fe p4)) :: G = c ∧ nk p0 a p4 E = some b) ?_ ?_
  ·refine fa<|Em Z<|Eq Z (gi rfl)<|Em Z<|?_
   refine Ee Z ?_ ?_
   ·intro e
    have e := ix e
    have H := fX (btf e) H
    refine Ez Z<|Ez Z<|Et Z<|Em Z<|Ez Z<|Ez Z<|Ez Z<|Et Z<|Em Z<|Ez Z<|Ez Z<|Et Z<|Em Z<|Ez Z<|Ez Z<|Ez Z<|Ez Z<|Ez Z<|Et Z<|Em Z<|Ez Z<|Ez Z<|?_
    exact Ez Z<|Ez Z<|Ez Z<|Et Z<|fb<|Pu2<|Pu2<|Re2<|Re2<|Re2<|Re2<|Sd<|⟨_, by exact R4, true, rfl, rfl, rfl, H⟩
   ·intro e
    have e := iw e
    have H := ift e H
    refine Vm Z<|Vq Z (gi rfl)<|Ef Z<|Em Z<|?_
    refine Ee Z ?_ ?_
    ·intro f
     have f := ix f
     have H := fX (btf f) H
     refine Ez Z<|Ez Z<|Ez Z<|Et Z<|Em Z<|Ez Z<|Ez Z<|Et Z<|Em Z<|Ez Z<|Ez Z<|Ez Z<|Ez Z<|Ez Z<|Et Z<|Em Z<|Ez Z<|Ez Z<|Ez Z<|Ez Z<|Ez Z<|Et Z<|?_
     exact fb<|Pu2<|Pu2<|Re2<|Re2<|Re2<|Re2<|Sd<|⟨_, by exact R4, true, rfl, rfl, rfl, H⟩
    ·intro f
     have f := iw f
     have H := ift f H
     refine VF 0 Z<|Vl (.bool a.send) Z (Rb1 Z)<|Vq Z (gi rfl)<|Ef Z<|Em Z<|?_
     refine Ee Z ?_ ?_
     ·intro g
      have g := ix g
      have H := fX (btf g) H
      refine Ez Z<|Ez Z<|Et Z<|Em Z<|Ez Z<|Ez Z<|Ez Z<|Ez Z<|Ez Z<|Et Z<|Em Z<|Ez Z<|Ez Z<|Ez Z<|Ez Z<|Ez Z<|Et Z<|fb<|Pu2<|Pu2<|Re2<|Re2<|?_
      exact Re2<|Re2<|Sd<|⟨_, by exact R4, true, rfl, rfl, rfl, H⟩
     ·intro g
      have g := iw g
      have H := ift g H
      refine VF 0 Z<|Vl (.bool y.send) Z (Rb0 Z)<|Ef Z<|Em Z<|?_
      refine Ee Z ?_ ?_
      ·intro A
       have H := ift A H
       exact Ez Z<|Ez Z<|Ez Z<|Ez Z<|Ez Z<|Et Z<|Em Z<|Ez Z<|Ez Z<|Ez Z<|Ez Z<|Ez Z<|Et Z<|fb<|Pu2<|Pu2<|Re2<|Re2<|Re2<|Re2<|Sd<|⟨_, by exact R4, true, rfl, rfl, rfl, H⟩
      ·intro A
       have H := fX (btf A) H
       refine VF 1 Z<|Vl (Vi a.channel) Z (Rb1 Z)<|VF 1 Z<|Vl (Vi y.channel) Z (Rb0 Z)<|Vc Z<|Ef Z<|Em Z<|?_
       refine Ee Z ?_ ?_
       ·intro h
        have h := lG (ix (h))
        have H := fX h H
        exact Ez Z<|Ez Z<|Ez Z<|Ez Z<|Ez Z<|Et Z<|fb<|Pu2<|Pu2<|Re2<|Re2<|Re2<|Re2<|Sd<|⟨_, by exact R4, true, rfl, rfl, rfl, H⟩
       ·intro h
        have h := lH (iw (h))
        have H := ift h H
        refine Vm Z<|VF 1 Z<|Vl (Vi a.channel) Z (Rb1 Z)<|?_
        obtain ⟨Q, ab, H⟩ := bnd H
        refine ib rfl rfl rfl rfl (Ek Tryz.call107 Z (lS p0 w a.channel Q ab _ _ D) ?_)
        rintro _ _ _ - ⟨rfl, rfl, rfl⟩
        exact Vq Z (gi rfl)<|Ef Z<|fb<|Pu2<|Pu2<|Re2<|Re2<|Re2<|Re2<|Sd<|⟨_, by exact R4, (!(Q)), rfl, rfl, rfl, H⟩
  rintro _ _ _ - ⟨E, rfl, rfl, rfl, H⟩
  unfold nk at H
  refine fm rfl ?_ ?_
  ·intro B
   have H := ift B H
   refine fc<|fa<|Ea Z<|fb<|fx<|?_
   obtain N := gn H
   subst b
   refine ⟨(.inl rfl), [(.bool false)], ⟨(.bool false), _, rfl, rfl, rfl⟩, ?_⟩
   exact Re0<|Re0<|Sd<|⟨rfl, rfl, rfl⟩
  ·intro B
   have H := fX (btf B) H
   refine ft<|fc<|fa<|Em Z<|EF 1 Z<|El (Vi a.channel) Z (Rb0 Z)<|?_
   obtain ⟨z, O, H⟩ := bnd H
   obtain ⟨al, X, R⟩ := Slr.at D O
   obtain ⟨P, rfl, ak⟩ := X
   refine Eq Z (Qi (T := fF) D O Z)<|EL 3 (fy z P) Z (Rdc.k R rfl)<|?_
   refine ff rfl (fC (cs := (fy (fJ.mk 0 [] false) fB)) rfl rfl rfl rfl (fun aj => ?_))
   refine ff rfl (Sa (fy z P) Z .here Z ?_)
   refine fb ?_
   refine fz (fun s d c => ∃ (u : Bool), [(10, (.bool u))] = s ∧ K = d ∧ G = c ∧ oZ u = some b) ?_ ?_
   ·refine fa<|EF 0 Z<|El (Vi z.capacity) Z (Rb0 Z)<|Ec Z<|Em Z<|?_
    refine Ee Z ?_ ?_
    ·intro t
     obtain ⟨t, H⟩ := It t H
     refine VF 2 Z<|Vl (.bool z.closed) Z (Rb0 Z)<|Vq Z (gi rfl)<|Et Z<|Em Z<|?_
     refine Ee Z ?_ ?_
     ·intro i
      have i := ix i
      have H := fX (btf i) H
      exact VF 2 Z<|Vl (.int .u64 p4.value) Z (Rb2 Z)<|VF 2 Z<|Vl (.int .u64 a.value) Z (Rb1 Z)<|Vc Z<|Et Z<|Ea Z<|fb<|Re0<|Re0<|Re0<|Sd<|⟨_, by exact R1, (dcd (p4.value = a.value)), rfl, rfl, rfl, H⟩
     ·intro i
      have i := iw i
      have H := ift i H
      exact Ez Z<|Ez Z<|Ez Z<|Ez Z<|Ez Z<|Ef Z<|Ea Z<|fb<|Re0<|Re0<|Re0<|Sd<|⟨_, by exact R1, false, rfl, rfl, rfl, H⟩
    ·intro t
     obtain ⟨t, H⟩ := If t H
     exact Ez Z<|Ez Z<|Ez Z<|Ef Z<|Em Z<|Ez Z<|Ez Z<|Ez Z<|Ez Z<|Ez Z<|Ef Z<|Ea Z<|fb<|Re0<|Re0<|Re0<|Sd<|⟨_, by exact R1, false, rfl, rfl, rfl, H⟩
   rintro _ _ _ - ⟨u, rfl, rfl, rfl, H⟩
   unfold oZ at H
   refine fx ?_
   obtain N := gn H
   subst b
   refine ⟨(.inl rfl), [(.bool u)], ⟨(.bool u), _, rfl, rfl, rfl⟩, ?_⟩
   exact Sd ⟨rfl, rfl, rfl⟩
theorem Ab (p0 : ad0) (e : SV) (p1 : Op) (a : SV) (b : SV) (p2 : Result) (p3 : Op) (c : SV) (d : SV) (p4 : Result) (f : Bool) (H : pP p0 p1 p2 p3 p4 = some f) (K : Kp) (G : List Ent) (i : Slr fF K (sv e) p0) (j : Slr fW K (sv a) p1.cases) (k : Slr Ty.i64 K (sv b) p1.draws) (l : Slr fW K (sv c) p3.cases) (m : Slr Ty.i64 K (sv d) p3.draws) :
  Fc Tryz.prog 64 #[(sv e), (.agg (fh p1 a b).toArray), (.agg (fe p2).toArray), (.agg (fh p3 c d).toArray), (.agg (fe p4).toArray)] K (G) (fun v o n => v = (.bool f) ∧ K = o ∧ G = n) := by
 refine fN Tryz.func64 rfl Tryz.ntmps64 Tryz.results64 rfl ?_
 unfold pP at H
 refine fc<|fa<|?_
 refine ff rfl (fR (cs := (fh p1 a b)) rfl rfl rfl (fun s => ?_))
 refine ff rfl (fR (cs := (fe p2)) rfl rfl rfl (fun t => ?_))
 refine ff rfl (fR (cs := (fh p3 c d)) rfl rfl rfl (fun u => ?_))
 refine ff rfl (fR (cs := (fe p4)) rfl rfl rfl (fun w => ?_))
 refine Ea Z<|fb<|fc<|fa<|Em Z<|EL 7 (fh p1 a b) Z (Rb3 Z)<|EL 5 (fe p2) Z (Rb2 Z)<|EL 7 (fh p3 c d) Z (Rb1 Z)<|EL 5 (fe p4) Z (Rb0 Z)<|?_
 obtain ⟨x19, q, H⟩ := bnd H
 refine ff rfl (Ek Tryz.call104 Z (yf p0 e p1 a b p2 p3 c d p4 x19 q _ _ i j k l m) ?_)
 rintro _ _ _ - ⟨rfl, rfl, rfl⟩
 refine Em Z ?_
 refine Ee Z ?_ ?_
 ·intro g
  have H := ift g H
  refine Ez Z<|Ez Z<|Ez Z<|Ez Z<|Ez Z<|Ez Z<|Et Z<|Ea Z<|fb<|fx<|?_
  obtain p := gn H
  subst f
  refine ⟨(.inl rfl), [(.bool true)], ⟨(.bool true), _, rfl, rfl, rfl⟩, ?_⟩
  exact Re0<|Re0<|Re0<|Re0<|Sd<|⟨rfl, rfl, rfl⟩
 ·intro g
  have H := fX (btf g) H
  refine Vm Z<|VL 7 (fh p3 c d) Z (Rb1 Z)<|VL 5 (fe p4) Z (Rb0 Z)<|VL 7 (fh p1 a b) Z (Rb3 Z)<|VL 5 (fe p2) Z (Rb2 Z)<|?_
  obtain ⟨h, r, H⟩ := bnd H
  refine ib rfl rfl rfl rfl (Ek Tryz.call104 Z (yf p0 e p3 c d p4 p1 a b p2 h r _ _ i l m j k) ?_)
  rintro _ _ _ - ⟨rfl, rfl, rfl⟩
  refine Ef Z<|Ea Z<|fb<|fx<|?_
  obtain p := gn H
  subst f
  refine ⟨(.inl rfl), [(.bool h)], ⟨(.bool h), _, rfl, rfl, rfl⟩, ?_⟩
  exact Re0<|Re0<|Re0<|Re0<|Sd<|⟨rfl, rfl, rfl⟩
theorem Ac (p0 : ad0) (z : SV) (p1 : Op) (m : SV) (n : SV) (p2 : Op) (o : SV) (p : SV) (y : ae8) (H : pQ p0 p1 p2 = some y) (K : Kp) (G : List Ent) (aK : Slr fF K (sv z) p0) (ao : Slr fW K (sv m) p1.cases) (ap : Slr Ty.i64 K (sv n) p1.draws) (aL : Slr fW K (sv o) p2.cases) (aM : Slr Ty.i64 K (sv p) p2.draws) :
  Fc Tryz.prog 86 #[(sv z), (.agg (fh p1 m n).toArray), (.agg (fh p2 o p).toArray)] K (G) (fun v e d => ∃ (al : SV), v = (sv al) ∧ (.tok 131 10 [(sv al)]) :: G = d ∧ Slr gy e (sv al) y) := by
 refine fN Tryz.func86 rfl Tryz.ntmps86 Tryz.results86 rfl ?_
 unfold pQ at H
 refine fc<|fa<|?_
 refine ff rfl (fR (cs := (fh p1 m n)) rfl rfl rfl (fun h => ?_))
 refine ff rfl (fR (cs := (fh p2 o p)) rfl rfl rfl (fun i => ?_))
 refine Ea Z<|fb<|fc<|fa<|Ea Z<|fb<|fc<|?_
 obtain ⟨C, aZ, H⟩ := bnd H
 obtain ⟨D, a0, H⟩ := bnd H
 refine fq _ rfl (Ic Mb0 (Ic Mb1 In0))<|JL 0 7 (fh p1 m n) Z (Rb1 Z)<|JL 2 7 (fh p2 o p) Z (Rb0 Z)<|?_
 refine Ao 1 Z ?_
 refine Ek Tryz.call44 Z (lu p1 m n C aZ _ _ ao ap) ?_
 rintro _ a9 _ Y ⟨I, rfl, rfl, aU⟩
 refine ⟨(Ic Mb0 (Ic Mb1 In0)), ?_⟩
 refine Ao 3 Z ?_
 have av := aL.mono Y
 have aw := aM.mono Y
 refine Ek Tryz.call44 Z (lu p2 o p D a0 _ _ av aw) ?_
 rintro _ ba _ M ⟨J, rfl, rfl, aV⟩
 refine ⟨(Ic Mb0 (Ic Mb1 In0)), ?_⟩
 refine Ja 4 Z<|Ja 5 Z<|Ad<|?_
 refine fz (fun g e d => ∃ (L : SV) (ak : ae8), [(7, (sv L))] = g ∧ (.tok 131 10 [(sv L)]) :: G = d ∧ r0 ak = some y ∧ Slr gy e (sv L) ak) ?_ ?_
 ·refine fc<|fa<|Ea Z<|fb<|fA<|?_
  refine f7 (fun aA g e d => ∃ (O : SV) (aa : ae8) (c : Int), [(0, (sv z)), (4, (Vp h)), (5, (Vp i)), (7, (sv O)), (8, (sv I)), (9, (sv J)), (10, (Vi c))] = g ∧ (.blk i 51 (fh p2 o p)) :: (.blk h 51 (fh p1 m n)) :: (.tok 131 10 [(sv O)]) :: G = d ∧ lp2 (r6 p0 C D p2 p1) aA aa c = some y ∧ Slr gy e (sv O) aa) BIG ?_ ?_
  ·exact Shift.nilTok1 131 10<|Pu2<|Pu2<|Sd<|⟨_, by exact R7, fB, ([] : ae8), 0, rfl, rfl, H, (Slr.nil gy _)⟩
  rintro aA _ a5 _ F ⟨O, aa, c, rfl, rfl, H, aq⟩
  obtain ⟨bf, N, rfl, aJ, H⟩ := jL H
  unfold r6 at H
  refine fc<|fc<|fa<|Em Z<|Em Z<|?_
  have ah := (aU.mono M).mono F
  refine Eq Z (gg (T := fW) ah rfl rfl)<|Ec Z<|fb<|?_
  refine fm rfl ?_ ?_
  ·intro U
   obtain ⟨U, H⟩ := It U H
   refine ft ?_
   refine fz (fun g e d => ∃ (ab : SV) (ae : ae8), [(0, (sv z)), (4, (Vp h)), (5, (Vp i)), (7, (sv ab)), (8, (sv I)), (9, (sv J)), (10, (Vi c))] = g ∧ (.blk i 51 (fh p2 o p)) :: (.blk h 51 (fh p1 m n)) :: (.tok 131 10 [(sv ab)]) :: G = d ∧ r3 p0 C D c p2 p1 N ae = some y ∧ Slr gy e (sv ab) ae) ?_ ?_
   ·refine fA<|fc<|fa<|Ea Z<|fb<|fA<|?_
    refine f7 (fun aB g e d => ∃ (j : SV) (A : ae8) (f : Int), [(0, (sv z)), (4, (Vp h)), (5, (Vp i)), (7, (sv j)), (8, (sv I)), (9, (sv J)), (10, (Vi c)), (11, (Vi f))] = g ∧ (.blk i 51 (fh p2 o p)) :: (.blk h 51 (fh p1 m n)) :: (.tok 131 10 [(sv j)]) :: G = d ∧ lp2 (r5 p0 C D c p2 p1 N) aB A f = some y ∧ Slr gy e (sv j) A) BIG ?_ ?_
    ·exact Pu2<|Pu2<|Pu2<|Sd<|⟨_, by exact R8, O, aa, 0, rfl, rfl, H, aq⟩
    rintro aB _ Q _ B ⟨j, A, f, rfl, rfl, H, ai⟩
    obtain ⟨bg, ad, rfl, an, H⟩ := jL H
    unfold r5 at H
    refine fc<|fc<|fa<|Em Z<|Em Z<|?_
    have aj := (aV.mono F).mono B
    refine Eq Z (gg (T := fW) aj rfl rfl)<|Ec Z<|fb<|?_
    refine fm rfl ?_ ?_
    ·intro V
     obtain ⟨V, H⟩ := It V H
     refine ft<|fc<|fA<|fc<|fa<|Ea Z<|Ea Z<|fb<|?_
     refine fz (fun g e d => ∃ (a : Int), [(0, (sv z)), (4, (Vp h)), (5, (Vp i)), (7, (sv j)), (8, (sv I)), (9, (sv J)), (10, (Vi c)), (11, (Vi f)), (12, (Vi a)), (13, (Vi (-1)))] = g ∧ Q = e ∧ (.blk i 51 (fh p2 o p)) :: (.blk h 51 (fh p1 m n)) :: (.tok 131 10 [(sv j)]) :: G = d ∧ mH p0 A C D c f p2 p1 N ad a = some y) ?_ ?_
     ·refine fc<|fa<|EF 0 Z<|El (Vi p1.kind) Z (Rb1 Z)<|Ec Z<|fb<|?_
      refine fm rfl ?_ ?_
      ·intro W
       obtain ⟨W, H⟩ := It W H
       exact fa<|Em Z<|Ea Z<|fb<|Pu2<|Pu2<|Pu2<|Sd<|⟨_, by exact R10, c, rfl, rfl, rfl, H⟩
      ·intro W
       obtain ⟨W, H⟩ := If W H
       exact ft<|Pu2<|Pu2<|Pu2<|Sd<|⟨_, by exact R10, (-1), rfl, rfl, rfl, H⟩
     rintro _ _ _ - ⟨a, rfl, rfl, rfl, H⟩
     unfold mH at H
     refine fz (fun g e d => ∃ (b : Int), [(0, (sv z)), (4, (Vp h)), (5, (Vp i)), (7, (sv j)), (8, (sv I)), (9, (sv J)), (10, (Vi c)), (11, (Vi f)), (12, (Vi a)), (13, (Vi b))] = g ∧ Q = e ∧ (.blk i 51 (fh p2 o p)) :: (.blk h 51 (fh p1 m n)) :: (.tok 131 10 [(sv j)]) :: G = d ∧ mG p0 A C D c f a p2 p1 N ad b = some y) ?_ ?_
     ·refine fc<|fa<|EF 0 Z<|El (Vi p2.kind) Z (Rb0 Z)<|Ec Z<|fb<|?_
      refine fm rfl ?_ ?_
      ·intro X
       obtain ⟨X, H⟩ := It X H
       exact fa<|Em Z<|Ea Z<|fb<|Pu2<|Pu2<|Pu2<|Sd<|⟨_, by exact R10, f, rfl, rfl, rfl, H⟩
      ·intro X
       obtain ⟨X, H⟩ := If X H
       exact ft<|Pu2<|Pu2<|Pu2<|Sd<|⟨_, by exact R10, (-1), rfl, rfl, rfl, H⟩
     rintro _ _ _ - ⟨b, rfl, rfl, rfl, H⟩
     unfold mG at H
     refine fz (fun g e d => ∃ (R : Nat) (S : Nat) (ac : Int), [(0, (sv z)), (4, (Vp h)), (5, (Vp i)), (7, (sv j)), (8, (sv I)), (9, (sv J)), (10, (Vi c)), (11, (Vi f)), (12, (Vi a)), (13, (Vi b)), (14, (Vp R)), (15, (Vp S))] = g ∧ Q = e ∧ (.blk S 38 (fe (Result.mk 2 b ac true 0))) :: (.blk R 38 (fe (Result.mk 1 a 0 false 0))) :: (.blk i 51 (fh p2 o p)) :: (.blk h 51 (fh p1 m n)) :: (.tok 131 10 [(sv j)]) :: G = d ∧ r4 p0 A C D c f a b p2 p1 N ad ac = some y) ?_ ?_
     ·obtain ⟨P, ax, H⟩ := bnd H
      refine fq _ rfl (Ic Mb0 (Ic Mb1 (Ic Mb2 In0)))<|Jm 0 Z<|Jq 1 Z (fH (cs := (fe (Result.mk 1 a 0 false 0))) rfl rfl rfl rfl rfl rfl)<|Jm 2 Z<|Jm 3 Z<|Jm 4 Z<|?_
      have ar := ah.mono B
      obtain ⟨_, rfl, aG⟩ := Slr.at ar ax
      refine Jq 5 Z (Qi (T := fW) ar ax Z)<|JF 6 2 Z<|Jl 7 (.int .u64 P.value) Z (Rdc.k aG rfl)<|Jq 8 Z (fH (cs := (fe (Result.mk 2 b P.value true 0))) rfl rfl rfl rfl rfl rfl)<|?_
      refine gY 9 10 (by kernel_rfl) ?_ ?_
      ·refine id (Jy Z ?_)
       refine fC (cs := (fe (Result.mk 0 0 0 false 0))) rfl rfl rfl rfl (fun aC => ⟨(Ic Mb1 (Ic Mb2 (Ic Mb3 In0))), ?_⟩)
       refine Ao 10 Z ?_
       refine fC (cs := (fe (Result.mk 0 0 0 false 0))) rfl rfl rfl rfl (fun aD => ⟨(Ic Mb2 (Ic Mb3 (Ic Mb4 In0))), ?_⟩)
       refine Ao 11 Z ?_
       refine Sa (fe (Result.mk 1 a 0 false 0)) Z (.there .here) Z ⟨(Ic Mb2 (Ic Mb3 (Ic Mb4 In0))), ?_⟩
       refine Ao 12 Z ?_
       refine Sa (fe (Result.mk 2 b P.value true 0)) Z .here Z ⟨(Ic Mb2 (Ic Mb3 (Ic Mb4 In0))), ?_⟩
       exact Ad<|Pu4<|Pu4<|Pu4<|Pu4<|Pu4<|Sd<|⟨_, by exact R12, aC, aD, P.value, rfl, rfl, rfl, H⟩
      ·refine id (Jy Z ?_)
       refine fC (cs := (fe (Result.mk 0 0 0 false 0))) rfl rfl rfl rfl (fun aE => ⟨(Ic Mb1 (Ic Mb2 (Ic Mb3 In0))), ?_⟩)
       refine Ao 9 Z ?_
       refine fC (cs := (fe (Result.mk 0 0 0 false 0))) rfl rfl rfl rfl (fun aF => ⟨(Ic Mb2 (Ic Mb3 (Ic Mb4 In0))), ?_⟩)
       refine Ao 11 Z ?_
       refine Sa (fe (Result.mk 1 a 0 false 0)) Z .here Z ⟨(Ic Mb2 (Ic Mb3 (Ic Mb4 In0))), ?_⟩
       refine Ao 12 Z ?_
       refine Sa (fe (Result.mk 2 b P.value true 0)) Z (.there .here) Z ⟨(Ic Mb2 (Ic Mb3 (Ic Mb4 In0))), ?_⟩
       exact Ad<|Pu4<|Pu4<|Pu4<|Pu3<|Pu4<|Sd<|⟨_, by exact R12, aF, aE, P.value, rfl, rfl, rfl, H⟩
     rintro _ _ _ - ⟨R, S, ac, rfl, rfl, rfl, H⟩
     unfold r4 at H
     refine fz (fun g e d => ∃ (r : Int) (s : Int) (w : Bool) (t : Int) (u : Int) (x : Bool), [(0, (sv z)), (4, (Vp h)), (5, (Vp i)), (7, (sv j)), (8, (sv I)), (9, (sv J)), (10, (Vi c)), (11, (Vi f)), (14, (Vp R)), (15, (Vp S))] = g ∧ Q = e ∧ (.blk S 38 (fe (Result.mk r b s w 0))) :: (.blk R 38 (fe (Result.mk t a u x 0))) :: (.blk i 51 (fh p2 o p)) :: (.blk h 51 (fh p1 m n)) :: (.tok 131 10 [(sv j)]) :: G = d ∧ o4 p0 A C D c f b a p2 p1 N ad r s w t u x = some y) ?_ ?_
     ·refine fc<|fa<|Em Z<|Em Z<|?_
      obtain ⟨a2, ay, H⟩ := bnd H
      have au := ah.mono B
      obtain ⟨_, rfl, aH⟩ := Slr.at au ay
      refine Eq Z (Qi (T := fW) au ay Z)<|EF 0 Z<|El (.bool a2.send) Z (Rdc.k aH rfl)<|Eq Z (gi rfl)<|fb<|?_
      refine fm rfl ?_ ?_
      ·intro E
       have E := ix E
       have H := fX (btf E) H
       refine fa<|Em Z<|Em Z<|Em Z<|?_
       obtain ⟨af, az, H⟩ := bnd H
       obtain ⟨_, rfl, aI⟩ := Slr.at aj az
       refine Eq Z (Qi (T := fW) aj az Z)<|EF 2 Z<|El (.int .u64 af.value) Z (Rdc.k aI rfl)<|Eq Z (fH (cs := (fe (Result.mk 2 a af.value true 0))) rfl rfl rfl rfl rfl rfl)<|Em Z<|Eq Z (fH (cs := (fe (Result.mk 1 b 0 false 0))) rfl rfl rfl rfl rfl rfl)<|?_
       refine ff rfl (Sa (fe (Result.mk 2 a af.value true 0)) Z (.there .here) Z ?_)
       refine ff rfl (Sa (fe (Result.mk 1 b 0 false 0)) Z .here Z ?_)
       exact fb<|Pu4<|Pu4<|Pu4<|Pu4<|Pu4<|Sd<|⟨_, by exact R10, 1, 0, false, 2, af.value, true, rfl, rfl, rfl, H⟩
      ·intro E
       have E := iw E
       have H := ift E H
       exact ft<|Pu4<|Pu4<|Pu4<|Pu4<|Pu4<|Sd<|⟨_, by exact R10, 2, ac, true, 1, 0, false, rfl, rfl, rfl, H⟩
     rintro _ _ _ - ⟨r, s, w, t, u, x, rfl, rfl, rfl, H⟩
     unfold o4 at H
     refine fc<|fa<|Em Z<|EL 7 (fh p1 m n) Z (Rb3 Z)<|EL 5 (fe (Result.mk t a u x 0)) Z (Rb1 Z)<|EL 7 (fh p2 o p) Z (Rb2 Z)<|EL 5 (fe (Result.mk r b s w 0)) Z (Rb0 Z)<|?_
     obtain ⟨a3, aX, H⟩ := bnd H
     have aO := (((aK.mono Y).mono M).mono F).mono B
     have aP := (((ao.mono Y).mono M).mono F).mono B
     have aQ := (((ap.mono Y).mono M).mono F).mono B
     have aR := ((av.mono M).mono F).mono B
     have aS := ((aw.mono M).mono F).mono B
     refine ff rfl (Ek Tryz.call64 Z (Ab p0 z p1 m n (Result.mk t a u x 0) p2 o p (Result.mk r b s w 0) a3 aX _ _ aO aP aQ aR aS) ?_)
     rintro _ _ _ - ⟨rfl, rfl, rfl⟩
     refine fb ?_
     refine fm rfl ?_ ?_
     ·intro ag
      have H := ift ag H
      refine fa<|Em Z<|EL 5 (fe (Result.mk t a u x 0)) Z (Rb1 Z)<|EL 5 (fe (Result.mk r b s w 0)) Z (Rb0 Z)<|Eq Z (kH (cs := (ie (gq.mk (Result.mk t a u x 0) (Result.mk r b s w 0)))) rfl rfl rfl rfl rfl rfl)<|?_
      have am : RowR gy Q [(ie (gq.mk (Result.mk t a u x 0) (Result.mk r b s w 0)))] [(gq.mk (Result.mk t a u x 0) (Result.mk r b s w 0))] := RowR.cons rfl (RowR.nil)
      refine ff rfl (gk (T := gy) (rows := [(ie (gq.mk (Result.mk t a u x 0) (Result.mk r b s w 0)))]) (l := [(gq.mk (Result.mk t a u x 0) (Result.mk r b s w 0))]) rfl rfl rfl am rfl rfl rfl rfl rfl rfl rfl rfl (fun bh => ?_))
      obtain ⟨a4, aY, H⟩ := bnd H
      refine ff rfl (ga (T := gy) (bytes := 80) (q := 0) rfl rfl rfl ai Mb5 rfl (SrcT.row Mb0 am rfl) aY rfl rfl rfl rfl rfl rfl rfl rfl (fun a1 a6 bc aT => ⟨_, (.there (.there (.there (.there (.there .here))))), ?_⟩))
      refine Ow.shift (Re0 (Sd ?_))
      exact Ea Z<|fb<|fa<|Em Z<|Er (wI (f + 1)) Z<|Ea Z<|fb<|Pu4<|Pu4<|Pu4<|Re3<|Re3<|Sd<|⟨_, by exact R8, _, Nat.lt_succ_self _, a1, a4, (wI (f + 1)), rfl, rfl, (an ▸ H), aT⟩
     ·intro ag
      have H := fX (btf ag) H
      exact ft<|fa<|Em Z<|Er (wI (f + 1)) Z<|Ea Z<|fb<|Pu4<|Pu4<|Pu4<|Re3<|Re3<|Sd<|⟨_, by exact R8, _, Nat.lt_succ_self _, j, A, (wI (f + 1)), rfl, rfl, (an ▸ H), ai⟩
    ·intro V
     obtain ⟨V, H⟩ := If V H
     exact f9<|Pu2<|Pu2<|Pu2<|Sd<|⟨_, by exact R7, j, A, rfl, rfl, H, ai⟩
   rintro _ a7 _ bd ⟨ab, ae, rfl, rfl, H, aN⟩
   unfold r3 at H
   exact fa<|Em Z<|Er (wI (c + 1)) Z<|Ea Z<|fb<|Pu2<|Pu2<|Pu2<|Sd<|⟨_, by exact R7, _, Nat.lt_succ_self _, ab, ae, (wI (c + 1)), rfl, rfl, (aJ ▸ H), aN⟩
  ·intro U
   obtain ⟨U, H⟩ := If U H
   exact f9<|Pu2<|Re1<|Re1<|Sd<|⟨_, by exact R1, O, aa, rfl, rfl, H, aq⟩
 rintro _ a8 _ be ⟨L, ak, rfl, rfl, H, aW⟩
 unfold r0 at H
 refine fc<|fa<|Em Z<|Ea Z<|fb<|fx<|?_
 obtain bb := gn H
 subst y
 refine ⟨(.inl rfl), [(sv L)], ⟨(sv L), _, rfl, rfl, rfl⟩, ?_⟩
 exact Sd ⟨L, rfl, rfl, aW⟩
theorem C7 (p0 : ad0) (e : SV) (p1 : Op) (a : SV) (b : SV) (p2 : Op) (c : SV) (d : SV) (f : Bool) (H : y4 p0 p1 p2 = some f) (K : Kp) (G : List Ent) (h : Slr fF K (sv e) p0) (i : Slr fW K (sv a) p1.cases) (j : Slr Ty.i64 K (sv b) p1.draws) (k : Slr fW K (sv c) p2.cases) (l : Slr Ty.i64 K (sv d) p2.draws) :
  Fc Tryz.prog 108 #[(sv e), (.agg (fh p1 a b).toArray), (.agg (fh p2 c d).toArray)] K (G) (fun v o g => v = (.bool f) ∧ G = g) := by
 refine fN Tryz.func108 rfl Tryz.ntmps108 Tryz.results108 rfl ?_
 unfold y4 at H
 refine fc<|fa<|?_
 refine ff rfl (fR (cs := (fh p1 a b)) rfl rfl rfl (fun r => ?_))
 refine ff rfl (fR (cs := (fh p2 c d)) rfl rfl rfl (fun q => ?_))
 refine Ea Z<|fb<|fc<|fa<|Em Z<|EL 7 (fh p1 a b) Z (Rb1 Z)<|EL 7 (fh p2 c d) Z (Rb0 Z)<|?_
 obtain ⟨x11, n, H⟩ := bnd H
 refine ff rfl (Ek Tryz.call86 Z (Ac p0 e p1 a b p2 c d x11 n _ _ h i j k l) ?_)
 rintro _ p _ t ⟨u, rfl, rfl, m⟩
 refine Eq Z (gg (T := gy) m rfl rfl)<|Ec Z<|Ea Z<|fb<|fx<|?_
 obtain s := gn H
 subst f
 refine ⟨(.inl rfl), [(.bool (dcd ((x11.length : Int) > 0)))], ⟨(.bool (dcd ((x11.length : Int) > 0))), _, rfl, rfl, rfl⟩, ?_⟩
 exact Re0<|Re0<|Re0<|Sd<|⟨rfl, rfl⟩
end Go.Hx
namespace Go.Hx
open Go Go.Proofs
set_option maxRecDepth 10000
set_option maxHeartbeats 1000000
theorem Di (p0 : ad0) (am : SV) (p1 : ae3) (O : SV) (p2 : ad8) (P : SV) (g : ad0) (h : Bool) (H : sg p0 p1 p2 = some (g, h)) (K : Kp) (G : List Ent) (bk : Slr fF K (sv am) p0) (U : Slr (Ty.sl gC) K (sv O) p1) (bl : Slr fP K (sv P) p2) :
  Fc Tryz.prog 31 #[(sv am), (sv O), (sv P)] K (G) (fun v i m => ∃ (aY : SV), v = (.tuple #[(sv aY), (.bool h)]) ∧ G = m ∧ Slr fF i (sv aY) g) := by
 refine fN Tryz.func31 rfl Tryz.ntmps31 Tryz.results31 rfl ?_
 unfold sg at H
 refine fc<|fa<|Ea Z<|Ea Z<|fb<|fc<|fa<|Em Z<|Eq Z (gg (T := (Ty.sl gC)) U rfl rfl)<|?_
 obtain ⟨b1, bO, H⟩ := bnd H
 refine ff rfl (jx (T := Ty.i64) (r := [(Vi 0)]) rfl rfl rfl bO rfl rfl rfl rfl rfl rfl rfl rfl rfl rfl (fun I bP a8 b7 => ?_))
 refine Ea Z<|fb<|?_
 refine fz (fun x i m => ∃ (J : SV) (aj : ad0), [(0, (sv J))] = x ∧ G = m ∧ wJ aj = some (g, h) ∧ Slr fF i (sv J) aj) ?_ ?_
 ·refine fc<|fa<|Ea Z<|fb<|fA<|?_
  refine f7 (fun aX x i m => ∃ (p : SV) (n : ad0) (o : ad1) (C : List (List Value)) (a : Int), [(0, (sv p)), (1, (sv O)), (2, (sv P)), (8, (sv I)), (9, (Vi a))] = x ∧ (.row (sv I) 3 1 C.flatten) :: G = m ∧ lp3 (wK p1 p2) aX n o a = some (g, h) ∧ Slr fF i (sv p) n ∧ RowR Ty.i64 i C o) BIG ?_ ?_
  ·exact Sd ⟨_, by exact R5, am, p0, b1, bP, 0, rfl, rfl, H, bk, a8⟩
  rintro aX _ a5 _ S ⟨p, n, o, C, a, rfl, rfl, H, af, c⟩
  obtain ⟨b8, aW, rfl, ao, H⟩ := xt H
  unfold wK at H
  refine fc<|fc<|fa<|Em Z<|Em Z<|?_
  have F := bl.mono S
  refine Eq Z (gg (T := fP) F rfl rfl)<|Ec Z<|fb<|?_
  refine fm rfl ?_ ?_
  ·intro L
   obtain ⟨L, H⟩ := It L H
   refine ft<|fc<|fA<|fc<|fa<|Em Z<|Em Z<|?_
   obtain ⟨b, aD, H⟩ := bnd H
   obtain ⟨_, rfl, a9⟩ := Slr.at F aD
   refine Eq Z (Qi (T := fP) F aD Z)<|EF 0 Z<|El (Vi b.thread) Z (Rdc.k a9 rfl)<|Ea Z<|fb<|fc<|?_
   refine fz (fun x i m => ∃ (ak : Bool), [(0, (sv p)), (1, (sv O)), (2, (sv P)), (8, (sv I)), (9, (Vi a)), (10, (Vi b.thread)), (49, (.bool ak))] = x ∧ a5 = i ∧ (.row (sv I) 3 1 C.flatten) :: G = m ∧ pU n p1 p2 o a b aW ak = some (g, h)) ?_ ?_
   ·rcases gR (dcd (b.thread < 0)) with f | f <;> revert f
    ·intro s
     obtain ⟨s, H⟩ := It s H
     refine fq _ rfl (Ic Mb0 In0)<|Jm 0 Z<|Jc 1 Z<|Jm 2 Z<|Aw.known (d := 32) rfl (hZ s)<|Jz 3 Z<|Jz 4 Z<|Jz 5 Z<|Jz 6 Z<|Jt 7 Z<|Jm 8 Z<|Jz 9 Z<|Jz 10 Z<|Jz 11 Z<|Jz 12 Z<|Jz 13 Z<|Jz 14 Z<|Jz 15 Z<|Jz 16 Z<|Jz 17 Z<|Jz 18 Z<|Jt 19 Z<|?_
     exact Ad<|Sd<|⟨_, by exact R7, true, rfl, rfl, rfl, H⟩
    ·intro s
     obtain ⟨s, H⟩ := If s H
     rcases gR (dcd (b.thread ≥ (p1.length : Int))) with f | f <;> revert f
     ·intro y
      obtain ⟨y, H⟩ := It y H
      refine fq _ rfl (Ic Mb0 In0)<|Jm 0 Z<|Jc 1 Z<|Jm 2 Z<|Aw.known (d := 32) rfl (iq s)<|Bm 3 Z<|Bm 4 Z<|?_
      have bB := U.mono S
      exact Bq 5 Z (gg (T := (Ty.sl gC)) bB rfl rfl)<|Bc 6 Z<|Jf 7 Z<|Jm 8 Z<|Aw.known (d := 38) rfl (hZ y)<|Jz 9 Z<|Jz 10 Z<|Jz 11 Z<|Jz 12 Z<|Jz 13 Z<|Jz 14 Z<|Jz 15 Z<|Jz 16 Z<|Jz 17 Z<|Jz 18 Z<|Jt 19 Z<|Ad<|Sd<|⟨_, by exact R7, true, rfl, rfl, rfl, H⟩
     ·intro y
      obtain ⟨y, H⟩ := If y H
      obtain ⟨aZ, aE, H⟩ := bnd H
      obtain ⟨bV, aF, H⟩ := bnd H
      refine fq _ rfl (Ic Mb0 In0)<|Jm 0 Z<|Jc 1 Z<|Jm 2 Z<|Aw.known (d := 32) rfl (iq s)<|Bm 3 Z<|Bm 4 Z<|?_
      have ag := U.mono S
      refine Bq 5 Z (gg (T := (Ty.sl gC)) ag rfl rfl)<|Bc 6 Z<|Jf 7 Z<|Jm 8 Z<|Aw.known (d := 38) rfl (iq y)<|Bm 9 Z<|Bm 10 Z<|?_
      obtain ⟨b9, ap, bm⟩ := RowR.at c aE
      obtain rfl := bm
      refine Bq 11 Z (gz (T := Ty.i64) Mb0 c ap (fL aE).1 rfl rfl rfl rfl rfl)<|Bl 12 (Vi aZ) Z (gQ (T := Ty.i64) Mb0 c ap rfl rfl)<|Bm 13 Z<|Bm 14 Z<|?_
      obtain ⟨ca, bn, ba⟩ := Slr.at ag aF
      obtain ⟨bQ, rfl, bC⟩ := bn
      exact Bq 15 Z (Qi (T := (Ty.sl gC)) ag aF Z)<|Bl 16 (sv bQ) Z (Rdc.k ba rfl)<|Bq 17 Z (gg (T := gC) bC rfl rfl)<|Bc 18 Z<|Jf 19 Z<|Ad<|Sd<|⟨_, by exact R7, (dcd (aZ ≥ (bV.length : Int))), rfl, rfl, rfl, H⟩
   rintro _ _ _ - ⟨ak, rfl, rfl, rfl, H⟩
   unfold pU at H
   refine fm rfl ?_ ?_
   ·intro Y
    have H := ift Y H
    refine fc<|fa<|Ea Z<|Ea Z<|fb<|fx<|?_
    obtain ⟨Q, R⟩ := hY H
    subst g h
    refine ⟨(.inl rfl), [(sv fB), (.bool false)], ⟨(sv fB), _, rfl, rfl, ⟨(.bool false), _, rfl, rfl, rfl⟩⟩, ?_⟩
    exact Re0<|Sd<|⟨fB, rfl, rfl, (Slr.nil fF _)⟩
   ·intro Y
    have H := fX (btf Y) H
    refine ft<|fc<|?_
    obtain ⟨cn, aG, H⟩ := bnd H
    obtain ⟨bW, aH, H⟩ := bnd H
    obtain ⟨u, aI, H⟩ := bnd H
    refine fq _ rfl (Ic Mb0 In0)<|Jm 0 Z<|Jm 1 Z<|?_
    have N := U.mono S
    obtain ⟨cb, bo, bb⟩ := Slr.at N aG
    obtain ⟨bR, rfl, ax⟩ := bo
    refine Jq 2 Z (Qi (T := (Ty.sl gC)) N aG Z)<|Jl 3 (sv bR) Z (Rdc.k bb rfl)<|Jm 4 Z<|Jm 5 Z<|?_
    obtain ⟨cc, aq, bp⟩ := RowR.at c aH
    obtain rfl := bp
    refine Jq 6 Z (gz (T := Ty.i64) Mb0 c aq (fL aH).1 rfl rfl rfl rfl rfl)<|Jl 7 (Vi bW) Z (gQ (T := Ty.i64) Mb0 c aq rfl rfl)<|?_
    obtain ⟨cd, bq, bc⟩ := Slr.at ax aI
    obtain ⟨D, E, rfl, ay, az⟩ := bq
    refine Jq 8 Z (Qi (T := gC) ax aI Z)<|JL 9 7 (fh u D E) Z (Rdc.k bc rfl)<|?_
    refine Ao 10 Z ?_
    refine fC (cs := (fh (Op.mk 0 0 0 0 0 [] []) fB fB)) rfl rfl rfl rfl (fun an => ⟨(Ic Mb1 In0), ?_⟩)
    refine Ao 11 Z ?_
    refine Sa (fh u D E) Z .here Z ⟨(Ic Mb1 In0), ?_⟩
    refine Ad<|fc<|fa<|Em Z<|Em Z<|?_
    obtain ⟨e, aJ, H⟩ := bnd H
    obtain ⟨ce, ar, br⟩ := RowR.at c aJ
    obtain rfl := br
    refine Eq Z (gz (T := Ty.i64) Mb1 c ar (fL aJ).1 rfl rfl rfl rfl rfl)<|El (Vi e) Z (gQ (T := Ty.i64) Mb1 c ar rfl rfl)<|Er (wI (e + 1)) Z<|?_
    obtain ⟨co, aK, H⟩ := bnd H
    obtain ⟨cf, ad, bs⟩ := RowR.at c aK
    obtain rfl := bs
    refine Eq Z (gz (T := Ty.i64) Mb1 c ad (fL aK).1 rfl rfl rfl rfl rfl) ?_
    refine ff rfl (gP (T := Ty.i64) (vs := [(Vi (wI (e + 1)))]) (r' := [(Vi (wI (e + 1)))]) (l' := (f8 o b.thread (wI (e + 1)))) rfl rfl rfl rfl rfl (.there .here) c ad rfl rfl rfl (RowR.set b.thread c rfl) (fun ac => ?_))
    have b4 := iO ad (v := [(Vi (wI (e + 1)))])
    refine fb<|fc<|?_
    obtain ⟨a0, aL, H⟩ := bnd H
    obtain ⟨a1, bX, bM, H⟩ := ir H
    refine fq _ rfl (Ic Mb0 (Ic Mb1 In0))<|Jm 0 Z<|JL 1 7 (fh u D E) Z (Rb0 Z)<|Jm 2 Z<|Jm 3 Z<|?_
    obtain ⟨_, rfl, bd⟩ := Slr.at F aL
    refine Jq 4 Z (Qi (T := fP) F aL Z)<|JF 5 1 Z<|JL 6 5 (fe a0.result) Z (Rdc.k bd rfl)<|?_
    refine Ao 7 Z ?_
    refine Ek Tryz.call51 Z (qt n p u D E a0.result a1 bX bM _ _ af ay az) ?_
    rintro _ a6 _ j ⟨bS, rfl, rfl, bD⟩
    refine ⟨(Ic Mb0 (Ic Mb1 In0)), ?_⟩
    refine Jm 8 Z<|Jx 9 Z<|Jx 10 Z<|Ja 11 Z<|Ja 12 Z<|Ad<|fc<|fc<|fa<|Em Z<|fb<|?_
    refine fm rfl ?_ ?_
    ·intro aa
     have H := ift aa H
     refine fc<|fa<|Em Z<|Ea Z<|fb<|f9<|fa<|Em Z<|Er (wI (a + 1)) Z<|Ea Z<|fb<|Pu1<|Re1<|?_
     have bE := ac.mono j
     exact Sd ⟨_, by exact R5, _, Nat.lt_succ_self _, bS, a1, (f8 o b.thread (wI (e + 1))), (C.set b.thread.toNat [(Vi (wI (e + 1)))]), (wI (a + 1)), rfl, rfl, (ao ▸ H), bD, bE⟩
    ·intro aa
     have H := fX (btf aa) H
     refine ft<|fc<|fc<|fa<|Em Z<|Er (wI (a + 1)) Z<|Em Z<|?_
     have B := F.mono j
     refine Eq Z (gg (T := fP) B rfl rfl)<|Ec Z<|fb<|?_
     refine fm rfl ?_ ?_
     ·intro M
      obtain ⟨M, H⟩ := It M H
      refine fc<|fa<|Ea Z<|Ea Z<|fb<|fx<|?_
      obtain ⟨Q, R⟩ := hY H
      subst g h
      refine ⟨(.inl rfl), [(sv fB), (.bool false)], ⟨(sv fB), _, rfl, rfl, ⟨(.bool false), _, rfl, rfl, rfl⟩⟩, ?_⟩
      exact Re0<|Re0<|Sd<|⟨fB, rfl, rfl, (Slr.nil fF _)⟩
     ·intro M
      obtain ⟨M, H⟩ := If M H
      refine ft<|fc<|fa<|Em Z<|Er (wI (a + 1)) Z<|Ea Z<|fb<|fc<|fa<|Em Z<|Em Z<|?_
      obtain ⟨q, aM, H⟩ := bnd H
      obtain ⟨_, rfl, be⟩ := Slr.at B aM
      refine Eq Z (Qi (T := fP) B aM Z)<|EF 0 Z<|El (Vi q.thread) Z (Rdc.k be rfl)<|Ea Z<|fb<|fc<|?_
      refine fz (fun x i m => ∃ (al : Bool), [(0, (sv p)), (1, (sv O)), (2, (sv P)), (8, (sv I)), (9, (Vi (wI (a + 1)))), (11, (Vp an)), (14, (Vi q.thread)), (110, (.bool al))] = x ∧ a6 = i ∧ (.blk an 51 (fh u D E)) :: (.row (sv I) 3 1 (C.set b.thread.toNat [(Vi (wI (e + 1)))]).flatten) :: G = m ∧ pT n p1 p2 o b e a q u aW al = some (g, h)) ?_ ?_
      ·rcases gR (dcd (q.thread < 0)) with f | f <;> revert f
       ·intro t
        obtain ⟨t, H⟩ := It t H
        refine fq _ rfl (Ic Mb0 (Ic Mb1 In0))<|Jm 0 Z<|Jc 1 Z<|Jm 2 Z<|Aw.known (d := 93) rfl (hZ t)<|Jz 3 Z<|Jz 4 Z<|Jz 5 Z<|Jz 6 Z<|Jt 7 Z<|Jm 8 Z<|Jz 9 Z<|Jz 10 Z<|Jz 11 Z<|Jz 12 Z<|Jz 13 Z<|Jz 14 Z<|Jz 15 Z<|Jz 16 Z<|Jz 17 Z<|Jz 18 Z<|Jt 19 Z<|?_
        exact Ad<|Pu1<|Pu1<|Sd<|⟨_, by exact R8, true, rfl, rfl, rfl, H⟩
       ·intro t
        obtain ⟨t, H⟩ := If t H
        rcases gR (dcd (q.thread ≥ (p1.length : Int))) with f | f <;> revert f
        ·intro z
         obtain ⟨z, H⟩ := It z H
         refine fq _ rfl (Ic Mb0 (Ic Mb1 In0))<|Jm 0 Z<|Jc 1 Z<|Jm 2 Z<|Aw.known (d := 93) rfl (iq t)<|Bm 3 Z<|Bm 4 Z<|?_
         have bF := N.mono j
         exact Bq 5 Z (gg (T := (Ty.sl gC)) bF rfl rfl)<|Bc 6 Z<|Jf 7 Z<|Jm 8 Z<|Aw.known (d := 99) rfl (hZ z)<|Jz 9 Z<|Jz 10 Z<|Jz 11 Z<|Jz 12 Z<|Jz 13 Z<|Jz 14 Z<|Jz 15 Z<|Jz 16 Z<|Jz 17 Z<|Jz 18 Z<|Jt 19 Z<|Ad<|Pu1<|Pu1<|Sd<|⟨_, by exact R8, true, rfl, rfl, rfl, H⟩
        ·intro z
         obtain ⟨z, H⟩ := If z H
         obtain ⟨a2, aN, H⟩ := bnd H
         obtain ⟨bY, aO, H⟩ := bnd H
         refine fq _ rfl (Ic Mb0 (Ic Mb1 In0))<|Jm 0 Z<|Jc 1 Z<|Jm 2 Z<|Aw.known (d := 93) rfl (iq t)<|Bm 3 Z<|Bm 4 Z<|?_
         have ah := N.mono j
         refine Bq 5 Z (gg (T := (Ty.sl gC)) ah rfl rfl)<|Bc 6 Z<|Jf 7 Z<|Jm 8 Z<|Aw.known (d := 99) rfl (iq z)<|Bm 9 Z<|Bm 10 Z<|?_
         have ai := ac.mono j
         obtain ⟨cg, au, bt⟩ := RowR.at ai aN
         obtain rfl := bt
         refine Bq 11 Z (gz (T := Ty.i64) Mb1 ai au (fL aN).1 rfl rfl rfl rfl rfl)<|Bl 12 (Vi a2) Z (gQ (T := Ty.i64) Mb1 ai au rfl rfl)<|Bm 13 Z<|Bm 14 Z<|?_
         obtain ⟨ch, bu, bf⟩ := Slr.at ah aO
         obtain ⟨bT, rfl, bG⟩ := bu
         exact Bq 15 Z (Qi (T := (Ty.sl gC)) ah aO Z)<|Bl 16 (sv bT) Z (Rdc.k bf rfl)<|Bq 17 Z (gg (T := gC) bG rfl rfl)<|Bc 18 Z<|Jf 19 Z<|Ad<|Pu1<|Pu1<|Sd<|⟨_, by exact R8, (dcd (a2 ≥ (bY.length : Int))), rfl, rfl, rfl, H⟩
      rintro _ _ _ - ⟨al, rfl, rfl, rfl, H⟩
      unfold pT at H
      refine fm rfl ?_ ?_
      ·intro ab
       have H := ift ab H
       refine fc<|fa<|Ea Z<|Ea Z<|fb<|fx<|?_
       obtain ⟨Q, R⟩ := hY H
       subst g h
       refine ⟨(.inl rfl), [(sv fB), (.bool false)], ⟨(sv fB), _, rfl, rfl, ⟨(.bool false), _, rfl, rfl, rfl⟩⟩, ?_⟩
       exact Re0<|Re0<|Sd<|⟨fB, rfl, rfl, (Slr.nil fF _)⟩
      ·intro ab
       have H := fX (btf ab) H
       refine ft<|fc<|?_
       obtain ⟨cp, aP, H⟩ := bnd H
       obtain ⟨bZ, aQ, H⟩ := bnd H
       obtain ⟨X, aR, H⟩ := bnd H
       refine fq _ rfl (Ic Mb0 (Ic Mb1 In0))<|Jm 0 Z<|Jm 1 Z<|?_
       have aA := N.mono j
       obtain ⟨ci, bv, bg⟩ := Slr.at aA aP
       obtain ⟨bU, rfl, aB⟩ := bv
       refine Jq 2 Z (Qi (T := (Ty.sl gC)) aA aP Z)<|Jl 3 (sv bU) Z (Rdc.k bg rfl)<|Jm 4 Z<|Jm 5 Z<|?_
       have l := ac.mono j
       obtain ⟨cj, av, bw⟩ := RowR.at l aQ
       obtain rfl := bw
       refine Jq 6 Z (gz (T := Ty.i64) Mb1 l av (fL aQ).1 rfl rfl rfl rfl rfl)<|Jl 7 (Vi bZ) Z (gQ (T := Ty.i64) Mb1 l av rfl rfl)<|?_
       obtain ⟨ck, bx, bh⟩ := Slr.at aB aR
       obtain ⟨V, W, rfl, bH, bI⟩ := bx
       refine Jq 8 Z (Qi (T := gC) aB aR Z)<|JL 9 7 (fh X V W) Z (Rdc.k bh rfl)<|?_
       refine Ao 10 Z ?_
       refine fC (cs := (fh (Op.mk 0 0 0 0 0 [] []) fB fB)) rfl rfl rfl rfl (fun b3 => ⟨(Ic Mb1 (Ic Mb2 In0)), ?_⟩)
       refine Ao 11 Z ?_
       refine Sa (fh X V W) Z .here Z ⟨(Ic Mb1 (Ic Mb2 In0)), ?_⟩
       refine Ad<|fc<|fa<|Em Z<|Em Z<|?_
       obtain ⟨w, aS, H⟩ := bnd H
       obtain ⟨cl, aw, bz⟩ := RowR.at l aS
       obtain rfl := bz
       refine Eq Z (gz (T := Ty.i64) Mb2 l aw (fL aS).1 rfl rfl rfl rfl rfl)<|El (Vi w) Z (gQ (T := Ty.i64) Mb2 l aw rfl rfl)<|Er (wI (w + 1)) Z<|?_
       obtain ⟨cq, aT, H⟩ := bnd H
       obtain ⟨cm, ae, bA⟩ := RowR.at l aT
       obtain rfl := bA
       refine Eq Z (gz (T := Ty.i64) Mb2 l ae (fL aT).1 rfl rfl rfl rfl rfl) ?_
       refine ff rfl (gP (T := Ty.i64) (vs := [(Vi (wI (w + 1)))]) (r' := [(Vi (wI (w + 1)))]) (l' := (f8 (f8 o b.thread (wI (e + 1))) q.thread (wI (w + 1)))) rfl rfl rfl rfl rfl (.there (.there .here)) l ae rfl rfl rfl (RowR.set q.thread l rfl) (fun a7 => ?_))
       have b5 := iO ae (v := [(Vi (wI (w + 1)))])
       refine fb<|fc<|?_
       obtain ⟨a3, aU, H⟩ := bnd H
       obtain ⟨a4, aV, H⟩ := bnd H
       obtain ⟨b0, bN, H⟩ := bnd H
       refine fq _ rfl (Ic Mb0 (Ic Mb1 (Ic Mb2 In0)))<|Jm 0 Z<|JL 1 7 (fh u D E) Z (Rb1 Z)<|Jm 2 Z<|Jm 3 Z<|Jr 4 (wI ((wI (a + 1)) - 1)) Z<|?_
       obtain ⟨_, rfl, bi⟩ := Slr.at B aU
       refine Jq 5 Z (Qi (T := fP) B aU Z)<|JF 6 1 Z<|JL 7 5 (fe a3.result) Z (Rdc.k bi rfl)<|JL 8 7 (fh X V W) Z (Rb0 Z)<|Jm 9 Z<|Jm 10 Z<|?_
       obtain ⟨_, rfl, bj⟩ := Slr.at B aV
       refine Jq 11 Z (Qi (T := fP) B aV Z)<|JF 12 1 Z<|JL 13 5 (fe a4.result) Z (Rdc.k bj rfl)<|?_
       refine Ao 14 Z ?_
       have aC := af.mono j
       have bJ := ay.mono j
       have bK := az.mono j
       refine Ek Tryz.call64 Z (Ab n p u D E a3.result X V W a4.result b0 bN _ _ aC bJ bK bH bI) ?_
       rintro _ _ _ - ⟨rfl, rfl, rfl⟩
       refine ⟨(Ic Mb0 (Ic Mb1 (Ic Mb2 In0))), ?_⟩
       refine Jq 15 Z (gi rfl)<|Ad<|?_
       refine fm rfl ?_ ?_
       ·intro A
        have A := ix A
        have H := fX (btf A) H
        refine fc<|fa<|Ea Z<|Ea Z<|fb<|fx<|?_
        obtain ⟨Q, R⟩ := hY H
        subst g h
        refine ⟨(.inl rfl), [(sv fB), (.bool false)], ⟨(sv fB), _, rfl, rfl, ⟨(.bool false), _, rfl, rfl, rfl⟩⟩, ?_⟩
        exact Re0<|Re0<|Re0<|Sd<|⟨fB, rfl, rfl, (Slr.nil fF _)⟩
       ·intro A
        have A := iw A
        have H := ift A H
        exact ft<|fa<|Em Z<|Er (wI ((wI (a + 1)) + 1)) Z<|Ea Z<|fb<|Pu2<|Re1<|Re1<|Sd<|⟨_, by exact R5, _, Nat.lt_succ_self _, p, n, (f8 (f8 o b.thread (wI (e + 1))) q.thread (wI (w + 1))), ((C.set b.thread.toNat [(Vi (wI (e + 1)))]).set q.thread.toNat [(Vi (wI (w + 1)))]), (wI ((wI (a + 1)) + 1)), rfl, rfl, (ao ▸ H), aC, a7⟩
  ·intro L
   obtain ⟨L, H⟩ := If L H
   exact f9<|Re0<|Sd<|⟨_, by exact R1, p, n, rfl, rfl, H, af⟩
 rintro _ b2 _ b6 ⟨J, aj, rfl, rfl, H, bL⟩
 unfold wJ at H
 refine fc<|fa<|Em Z<|Ea Z<|Ea Z<|fb<|fx<|?_
 obtain ⟨Q, R⟩ := hY H
 subst g h
 refine ⟨(.inl rfl), [(sv J), (.bool true)], ⟨(sv J), _, rfl, rfl, ⟨(.bool true), _, rfl, rfl, rfl⟩⟩, ?_⟩
 exact Sd ⟨J, rfl, rfl, bL⟩
theorem Dj (p0 : ad4) (a : SV) (p1 : Int) (p2 : Int) (c : Int) (H : sh p0 p1 p2 = some c) (K : Kp) (G : List Ent) (e : Slr f4 K (sv a) p0) :
  Fc Tryz.prog 32 #[(sv a), (Vi p1), (Vi p2)] K (G) (fun v g d => v = (Vi c) ∧ G = d) := by
 refine fN Tryz.func32 rfl Tryz.ntmps32 Tryz.results32 rfl ?_
 unfold sh at H
 refine fc<|fa<|Ea Z<|fb<|fc<|fa<|Em Z<|Em Z<|Em Z<|?_
 obtain ⟨b, f, H⟩ := bnd H
 refine ff rfl (Ek Tryz.call65 Z (qp p0 a p1 p2 false b f _ _ e) ?_)
 rintro _ h _ j ⟨rfl, rfl⟩
 refine Ea Z<|fb<|fx<|?_
 obtain i := gn H
 subst c
 refine ⟨(.inl rfl), [(Vi b)], ⟨(Vi b), _, rfl, rfl, rfl⟩, ?_⟩
 exact Sd ⟨rfl, rfl⟩
end Go.Hx
