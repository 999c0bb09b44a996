
import Derived.Test.YtphoeijgpmlbpaaGreatDoorXZM
import Derived.Test.YtphoeijgpmlbpaaGreatDoorXZWDraw
import Derived.Test.YtphoeijgpmlbpaaGreatDoorXZWLinear2
set_option linter.unusedVariables false
set_option linter.unusedSimpArgs false
namespace Go.Hx
open Go Go.Proofs
set_option maxRecDepth 10000
set_option maxHeartbeats 1000000
theorem BA (p0 : ad1) (bB : SV) (p1 : Int) (I : fP) (Q : ae3) (R : ad6) (H : qi p0 p1 = some (I, Q, R)) (K : Kp) (G : List Ent) (cX : Slr Ty.u8 K (sv bB) p0) :
  Fc Tryz.prog 8 #[(sv bB), (Vi p1)] K (G) (fun v a n => ∃ (bC : SV) (bD : SV) (cr : SV) (co : List (List Value)) (bE : SV), v = (.tuple #[(.agg (fp I bC bD).toArray), (sv cr), (sv bE)]) ∧ (.tok 3 1 [(sv bC)]) :: (.tok 36 1 [(sv bD)]) :: (.row (sv cr) 52 1 co.flatten) :: (.tok 40 8 [(sv bE)]) :: G = n ∧ Slr Ty.i64 a (sv bC) I.capacities ∧ Slr Ty.u64 a (sv bD) I.starts ∧ RowR (Ty.sl gK) a co Q ∧ Slr f5 a (sv bE) R) := by
 refine fO Tryz.func8 rfl Tryz.ntmps8 Tryz.results8 rfl ?_
 unfold qi at H
 refine fc<|fa<|?_
 refine ff rfl (fC (cs := (fp (fP.mk [] [] 0) fA fA)) rfl rfl rfl rfl (fun p => ?_))
 refine Ea Z<|Ea Z<|fb<|fc<|fa<|Em Z<|?_
 obtain ⟨g, dQ, H⟩ := bnd H
 refine ff rfl (Ek Tryz.call18 Z (BQ p0 bB 160 g dQ _ _ cX) ?_)
 rintro _ _ _ - ⟨j, O, rfl, rfl, rfl, bX⟩
 refine Ea Z<|fb<|fc<|fa<|Em Z<|?_
 obtain ⟨b, cw, cx, dR, H⟩ := kO H
 refine ff rfl (Ek Tryz.call19 Z (DR j g O b cw cx dR _ _ bX) ?_)
 rintro _ ek _ cB ⟨e, f, rfl, rfl, bY, bZ⟩
 refine ff rfl (fC (cs := (fp (fP.mk [] [] 0) fA fA)) rfl rfl rfl rfl (fun s => ?_))
 refine ff rfl (Sa (fp b e f) Z .here Z ?_)
 refine fb<|fc<|fa<|Em Z<|EL 3 (fp b e f) Z (Rb0 Z)<|Em Z<|?_
 obtain ⟨ac, bf, bg, dS, H⟩ := kO H
 refine Ow.shift (Pu1 (Sd ?_))
 have bu := bX.mono cB
 refine ff rfl (Ek Tryz.call20 Z (DN j (fg.mk g.list cw cx) O b e f p1 ac bf bg dS _ _ bu bY bZ) ?_)
 rintro _ el _ aM ⟨h, aa, rfl, rfl, bv⟩
 refine Ea Z<|fb<|fc<|fa<|EL 3 (fp b e f) Z (Rb2 Z)<|?_
 obtain ⟨al, dT, H⟩ := bnd H
 have b0 := bY.mono aM
 have b1 := bZ.mono aM
 refine ff rfl (Ek Tryz.call21 Z (BR b e f al dT _ _ b0 b1) ?_)
 rintro _ cA _ af ⟨bd, bA, rfl, rfl, dJ, dK⟩
 refine ff rfl (fC (cs := (fh (fY.mk [] [] 0) fA fA)) rfl rfl rfl rfl (fun A => ?_))
 refine ff rfl (Sa (fh al bd bA) Z .here Z ?_)
 refine fb ?_
 refine fz (fun u a n => ∃ (y : SV) (a0 : ad1) (a6 : List (List Value)) (z : SV) (a1 : ad1) (a7 : List (List Value)), [(4, (Vp p)), (7, (Vp j)), (8, (Vp s)), (9, (sv h)), (10, (Vp A)), (11, (sv y)), (12, (sv z))] = u ∧ cA = a ∧ (.blk A 60 (fh al bd bA)) :: (.blk s 27 (fp b e f)) :: (.blk j 99 (fE (fg.mk g.list bf bg) O)) :: (.blk p 27 (fp (fP.mk [] [] 0) fA fA)) :: (.row (sv y) 3 1 a6.flatten) :: (.row (sv z) 3 1 a7.flatten) :: (.tok 104 3 [(sv bd)]) :: (.row (sv h) 52 1 aa.flatten) :: (.tok 3 1 [(sv e)]) :: (.tok 36 1 [(sv f)]) :: G = n ∧ vm ac al b g bf bg a0 a1 = some (I, Q, R) ∧ RowR Ty.i64 a a6 a0 ∧ RowR Ty.i64 a a7 a1) ?_ ?_
 ·obtain ⟨cy, ck, H⟩ := bnd H
  obtain ⟨cz, cl, H⟩ := bnd H
  refine fq _ rfl (Ic Mb0 (Ic Mb1 (Ic Mb2 (Ic Mb3 (Ic Mb4 (Ic Mb5 (Ic Mb6 (Ic Mb7 In0))))))))<|JF 0 2 Z<|Jl 1 (Vi b.threads) Z (Rb4 Z)<|JF 3 2 Z<|Jl 4 (Vi b.threads) Z (Rb4 Z)<|?_
  refine gU 2 5 (by kernel_rfl) ?_ ?_
  ·refine id (Jy Z ?_)
   refine jv (T := Ty.i64) (r := [(Vi 0)]) rfl rfl rfl ck rfl rfl rfl rfl rfl rfl rfl rfl rfl rfl (fun d4 dV cO ey => ⟨(Ic Mb1 (Ic Mb2 (Ic Mb3 (Ic Mb4 (Ic Mb5 (Ic Mb6 (Ic Mb7 (Ic Mb8 In0)))))))), ?_⟩)
   refine Ja 6 Z ?_
   refine Ao 5 Z ?_
   refine jv (T := Ty.i64) (r := [(Vi 0)]) rfl rfl rfl cl rfl rfl rfl rfl rfl rfl rfl rfl rfl rfl (fun d5 dW cP ez => ⟨(Ic Mb2 (Ic Mb3 (Ic Mb4 (Ic Mb5 (Ic Mb6 (Ic Mb7 (Ic Mb8 (Ic Mb9 In0)))))))), ?_⟩)
   exact Ja 7 Z<|Ad<|Pu8<|Pu8<|Pu7<|Pu6<|Pu4<|Pu5<|Pu9<|Pu8<|Pu9<|Pu9<|Sd<|⟨_, by exact R7, d4, cy, dV, d5, cz, dW, rfl, rfl, rfl, H, cO, cP⟩
  ·refine id (Jy Z ?_)
   refine jv (T := Ty.i64) (r := [(Vi 0)]) rfl rfl rfl cl rfl rfl rfl rfl rfl rfl rfl rfl rfl rfl (fun d6 dX cQ eA => ⟨(Ic Mb1 (Ic Mb2 (Ic Mb3 (Ic Mb4 (Ic Mb5 (Ic Mb6 (Ic Mb7 (Ic Mb8 In0)))))))), ?_⟩)
   refine Ao 2 Z ?_
   refine jv (T := Ty.i64) (r := [(Vi 0)]) rfl rfl rfl ck rfl rfl rfl rfl rfl rfl rfl rfl rfl rfl (fun d7 dY cR eB => ⟨(Ic Mb2 (Ic Mb3 (Ic Mb4 (Ic Mb5 (Ic Mb6 (Ic Mb7 (Ic Mb8 (Ic Mb9 In0)))))))), ?_⟩)
   exact Ja 6 Z<|Ja 7 Z<|Ad<|Pu8<|Pu8<|Pu7<|Pu6<|Pu5<|Pu5<|Pu9<|Pu8<|Pu9<|Pu9<|Sd<|⟨_, by exact R7, d7, cy, dY, d6, cz, dX, rfl, rfl, rfl, H, cR, cQ⟩
 rintro _ _ _ - ⟨y, a0, a6, z, a1, a7, rfl, rfl, rfl, H, cM, cN⟩
 unfold vm at H
 refine fc<|fa<|EF 2 Z<|El (Vi b.threads) Z (Rb1 Z)<|?_
 obtain ⟨ef, dU, H⟩ := bnd H
 refine ff rfl (jv (T := fN) (r := (fe (Result.mk 0 0 0 false 0))) rfl rfl rfl dU rfl rfl rfl rfl rfl rfl rfl rfl rfl rfl (fun M dZ cS eC => ?_))
 refine Ea Z<|fb<|fc<|fa<|Ea Z<|fb<|?_
 refine fz (fun u a n => ∃ (ak : SV) (bw : ad6), [(4, (Vp p)), (8, (Vp s)), (9, (sv h)), (14, (sv ak))] = u ∧ (.blk s 27 (fp b e f)) :: (.blk p 27 (fp (fP.mk [] [] 0) fA fA)) :: (.tok 40 8 [(sv ak)]) :: (.row (sv h) 52 1 aa.flatten) :: (.tok 3 1 [(sv e)]) :: (.tok 36 1 [(sv f)]) :: G = n ∧ vj ac b bw = some (I, Q, R) ∧ Slr f5 a (sv ak) bw) ?_ ?_
 ·refine fc<|fa<|Ea Z<|fb<|fB<|?_
  refine f8 (fun cm u a n => ∃ (L : ad1) (N : List (List Value)) (D : ad1) (V : List (List Value)) (S : ad5) (W : List (List Value)) (x : SV) (U : ad6) (w : Int) (X : SV) (E : ad0) (Y : SV) (F : af0) (J : Int) (ai : Int) (aj : Int), [(4, (Vp p)), (7, (Vp j)), (8, (Vp s)), (9, (sv h)), (10, (Vp A)), (11, (sv y)), (12, (sv z)), (13, (sv M)), (14, (sv x)), (15, (Vi w))] = u ∧ (.blk A 60 (fh (fY.mk E F J) X Y)) :: (.blk s 27 (fp b e f)) :: (.blk j 99 (fE (fg.mk g.list ai aj) O)) :: (.blk p 27 (fp (fP.mk [] [] 0) fA fA)) :: (.row (sv y) 3 1 N.flatten) :: (.row (sv z) 3 1 V.flatten) :: (.row (sv M) 38 5 W.flatten) :: (.tok 40 8 [(sv x)]) :: (.row (sv h) 52 1 aa.flatten) :: (.tok 3 1 [(sv e)]) :: (.tok 36 1 [(sv f)]) :: G = n ∧ Av (vl ac b g) cm L D S U w E F J ai aj = some (I, Q, R) ∧ RowR Ty.i64 a N L ∧ RowR Ty.i64 a V D ∧ RowR fN a W S ∧ Slr f5 a (sv x) U ∧ Slr fG a (sv X) E ∧ Slr fQ a (sv Y) F) BIG ?_ ?_
  ·exact Shift.nilTok1 40 8<|jb<|jb<|jb<|Pu3<|Pu4<|gz<|gz<|gz<|gz<|gz<|gz<|Re11<|Sd<|⟨_, by exact R10, a0, a6, a1, a7, ef, dZ, fA, ([] : ad6), 0, bd, al.chans, bA, al.waiting, al.tick, bf, bg, rfl, rfl, H, cM, cN, cS, (Slr.nil f5 _), dJ, dK⟩
  rintro cm _ aK _ aL ⟨L, N, D, V, S, W, x, U, w, X, E, Y, F, J, ai, aj, rfl, rfl, H, t, o, ag, aC, aN, aO⟩
  obtain ⟨eE, aE, rfl, cV, H⟩ := lps10 H
  unfold vl at H
  refine fc ?_
  refine fz (fun u a n => ∃ (bx : Bool) (B : Int) (C : Int), [(4, (Vp p)), (7, (Vp j)), (8, (Vp s)), (9, (sv h)), (10, (Vp A)), (11, (sv y)), (12, (sv z)), (13, (sv M)), (14, (sv x)), (15, (Vi w)), (45, (.bool bx))] = u ∧ aK = a ∧ (.blk A 60 (fh (fY.mk E F J) X Y)) :: (.blk s 27 (fp b e f)) :: (.blk j 99 (fE (fg.mk g.list B C) O)) :: (.blk p 27 (fp (fP.mk [] [] 0) fA fA)) :: (.row (sv y) 3 1 N.flatten) :: (.row (sv z) 3 1 V.flatten) :: (.row (sv M) 38 5 W.flatten) :: (.tok 40 8 [(sv x)]) :: (.row (sv h) 52 1 aa.flatten) :: (.tok 3 1 [(sv e)]) :: (.tok 36 1 [(sv f)]) :: G = n ∧ oh ac L D S U w E F J b g aE bx B C = some (I, Q, R)) ?_ ?_
  ·refine fa<|Em Z<|Ec Z<|Em Z<|?_
   refine Ee Z ?_ ?_
   ·intro ar
    obtain ⟨ar, H⟩ := It ar H
    refine Vm Z ?_
    obtain ⟨ct, dL, H⟩ := bnd H
    refine Ow.shift (Pu2 (Sd ?_))
    have di := ((bu.mono aM).mono af).mono aL
    refine hY rfl rfl rfl rfl (Ek Tryz.call22 Z (sP j (fg.mk g.list ai aj) O ct dL _ _ di) ?_)
    rintro _ _ _ - ⟨rfl, rfl, rfl⟩
    exact Et Z<|fb<|gz<|gz<|gz<|gz<|gz<|gz<|gz<|gz<|Pu8<|gz<|gz<|Sd<|⟨_, by exact R11, ct, ((fg.mk g.list ai aj).at_), ((fg.mk g.list ai aj).value), rfl, rfl, rfl, H⟩
   ·intro ar
    obtain ⟨ar, H⟩ := If ar H
    exact Ez Z<|Ez Z<|Ef Z<|fb<|gz<|gz<|gz<|gz<|gz<|gz<|gz<|gz<|gz<|gz<|gz<|Sd<|⟨_, by exact R11, false, ai, aj, rfl, rfl, rfl, H⟩
  rintro _ _ _ - ⟨bx, B, C, rfl, rfl, rfl, H⟩
  unfold oh at H
  refine fm rfl ?_ ?_
  ·intro bh
   have H := ift bh H
   refine ft ?_
   refine fz (fun u a n => ∃ (aV : ad1) (a2 : List (List Value)) (aW : ad1) (a3 : List (List Value)) (aX : ad5) (a4 : List (List Value)) (aJ : SV) (aY : ad6) (a8 : SV) (aF : ad0) (a9 : SV) (aG : af0) (aT : Int) (aU : Int), [(4, (Vp p)), (7, (Vp j)), (8, (Vp s)), (9, (sv h)), (10, (Vp A)), (11, (sv y)), (12, (sv z)), (13, (sv M)), (14, (sv aJ)), (15, (Vi w))] = u ∧ (.blk A 60 (fh (fY.mk aF aG aT) a8 a9)) :: (.blk s 27 (fp b e f)) :: (.blk j 99 (fE (fg.mk g.list aU ((fg.mk g.list B C).value)) O)) :: (.blk p 27 (fp (fP.mk [] [] 0) fA fA)) :: (.row (sv y) 3 1 a2.flatten) :: (.row (sv z) 3 1 a3.flatten) :: (.row (sv M) 38 5 a4.flatten) :: (.tok 40 8 [(sv aJ)]) :: (.row (sv h) 52 1 aa.flatten) :: (.tok 3 1 [(sv e)]) :: (.tok 36 1 [(sv f)]) :: G = n ∧ pj ac w b g B C aE aV aW aX aY aF aG aT aU = some (I, Q, R) ∧ RowR Ty.i64 a a2 aV ∧ RowR Ty.i64 a a3 aW ∧ RowR fN a a4 aX ∧ Slr f5 a (sv aJ) aY ∧ Slr fG a (sv a8) aF ∧ Slr fQ a (sv a9) aG) ?_ ?_
   ·refine fB<|fc<|fa<|Em Z<|EF 2 Z<|El (Vi b.threads) Z (Rb1 Z)<|?_
    obtain ⟨c, P, dM, H⟩ := ix H
    refine Ow.shift (Pu2 (Sd ?_))
    have dm := ((bu.mono aM).mono af).mono aL
    refine ff rfl (Ek Tryz.call23 Z (i6 j (fg.mk g.list B C) O b.threads c P dM _ _ dm) ?_)
    rintro _ _ _ - ⟨rfl, rfl, rfl⟩
    refine Ea Z<|fb<|fB<|?_
    refine fz (fun u a n => ∃ (bz : Bool), [(4, (Vp p)), (7, (Vp j)), (8, (Vp s)), (9, (sv h)), (10, (Vp A)), (11, (sv y)), (12, (sv z)), (13, (sv M)), (14, (sv x)), (15, (Vi w)), (16, (Vi c)), (52, (.bool bz))] = u ∧ aK = a ∧ (.blk A 60 (fh (fY.mk E F J) X Y)) :: (.blk s 27 (fp b e f)) :: (.blk j 99 (fE (fg.mk g.list P ((fg.mk g.list B C).value)) O)) :: (.blk p 27 (fp (fP.mk [] [] 0) fA fA)) :: (.row (sv y) 3 1 N.flatten) :: (.row (sv z) 3 1 V.flatten) :: (.row (sv M) 38 5 W.flatten) :: (.tok 40 8 [(sv x)]) :: (.row (sv h) 52 1 aa.flatten) :: (.tok 3 1 [(sv e)]) :: (.tok 36 1 [(sv f)]) :: G = n ∧ pm ac L D S U w c E F J b g P B C aE bz = some (I, Q, R)) ?_ ?_
    ·obtain ⟨bF, aS, H⟩ := bnd H
     rcases gQ (dcd (bF = 0)) with bJ | bJ <;> revert bJ
     ·intro ae
      obtain ⟨ae, H⟩ := It ae H
      obtain ⟨cu, b2, H⟩ := bnd H
      obtain ⟨d8, b3, H⟩ := bnd H
      refine fq _ rfl (Ic Mb0 (Ic Mb1 (Ic Mb2 (Ic Mb3 (Ic Mb4 (Ic Mb5 (Ic Mb6 (Ic Mb7 (Ic Mb8 (Ic Mb9 (Ic tG In0)))))))))))<|Jm 0 Z<|Jm 1 Z<|?_
      obtain ⟨eG, bK, cY⟩ := RowR.at o aS
      obtain rfl := cY
      refine Jq 2 Z (gy (T := Ty.i64) Mb5 o bK (fK aS).1 rfl rfl rfl rfl rfl)<|Jl 3 (Vi bF) Z (gP (T := Ty.i64) Mb5 o bK rfl rfl)<|Jc 4 Z<|Jm 5 Z<|Aw.known (d := 58) rfl (hZ ae)<|Bm 6 Z<|Bm 7 Z<|?_
      obtain ⟨eH, bL, cZ⟩ := RowR.at t b2
      obtain rfl := cZ
      refine Bq 8 Z (gy (T := Ty.i64) Mb4 t bL (fK b2).1 rfl rfl rfl rfl rfl)<|Bl 9 (Vi cu) Z (gP (T := Ty.i64) Mb4 t bL rfl rfl)<|Bm 10 Z<|Bm 11 Z<|?_
      have br := (bv.mono af).mono aL
      obtain ⟨eI, bM, c0⟩ := RowR.at br b3
      obtain ⟨d0, rfl, dn⟩ := c0
      exact Bq 12 Z (gy (T := (Ty.sl gK)) Mb8 br bM (fK b3).1 rfl rfl rfl rfl rfl)<|Bl 13 (sv d0) Z (gP (T := (Ty.sl gK)) Mb8 br bM rfl rfl)<|Bq 14 Z (ge (T := gK) dn rfl rfl)<|Bc 15 Z<|Jt 16 Z<|Ja 17 Z<|Ad<|gz<|gz<|gz<|gz<|gz<|gz<|gz<|gz<|Pu8<|gz<|gz<|Sd<|⟨_, by exact R12, (dcd (cu < (d8.length : Int))), rfl, rfl, rfl, H⟩
     ·intro ae
      obtain ⟨ae, H⟩ := If ae H
      refine fq _ rfl (Ic Mb0 (Ic Mb1 (Ic Mb2 (Ic Mb3 (Ic Mb4 (Ic Mb5 (Ic Mb6 (Ic Mb7 (Ic Mb8 (Ic Mb9 (Ic tG In0)))))))))))<|Jm 0 Z<|Jm 1 Z<|?_
      obtain ⟨eJ, bN, c1⟩ := RowR.at o aS
      obtain rfl := c1
      refine Jq 2 Z (gy (T := Ty.i64) Mb5 o bN (fK aS).1 rfl rfl rfl rfl rfl)<|Jl 3 (Vi bF) Z (gP (T := Ty.i64) Mb5 o bN rfl rfl)<|Jc 4 Z<|Jm 5 Z<|Aw.known (d := 58) rfl (io ae)<|Jz 6 Z<|Jz 7 Z<|Jz 8 Z<|Jz 9 Z<|Jz 10 Z<|Jz 11 Z<|Jz 12 Z<|Jz 13 Z<|Jz 14 Z<|Jz 15 Z<|Jf 16 Z<|Ja 17 Z<|Ad<|gz<|gz<|gz<|gz<|?_
      exact gz<|gz<|gz<|gz<|Pu8<|gz<|gz<|Sd<|⟨_, by exact R12, false, rfl, rfl, rfl, H⟩
    rintro _ _ _ - ⟨bz, rfl, rfl, rfl, H⟩
    unfold pm at H
    refine fm rfl ?_ ?_
    ·intro bi
     have H := ift bi H
     refine fc<|fa<|Em Z<|Em Z<|Em Z<|Em Z<|?_
     obtain ⟨ao, b4, H⟩ := bnd H
     obtain ⟨eK, bO, c2⟩ := RowR.at t b4
     obtain rfl := c2
     refine Eq Z (gy (T := Ty.i64) Mb4 t bO (fK b4).1 rfl rfl rfl rfl rfl)<|El (Vi ao) Z (gP (T := Ty.i64) Mb4 t bO rfl rfl)<|Eq Z (fF (cs := (fJ (Event.mk c ao false (Result.mk 0 0 0 false 0)))) rfl rfl rfl rfl rfl rfl)<|?_
     have bH : RowR f5 aK [(fJ (Event.mk c ao false (Result.mk 0 0 0 false 0)))] [(Event.mk c ao false (Result.mk 0 0 0 false 0))] := RowR.cons rfl (RowR.nil)
     refine ff rfl (gg (T := f5) (rows := [(fJ (Event.mk c ao false (Result.mk 0 0 0 false 0)))]) (l := [(Event.mk c ao false (Result.mk 0 0 0 false 0))]) rfl rfl rfl bH rfl rfl rfl rfl rfl rfl rfl rfl (fun eZ => ?_))
     obtain ⟨d9, dN, H⟩ := bnd H
     refine ff rfl (f7 (T := f5) (bytes := 64) (q := 0) rfl rfl rfl aC Mb8 rfl (SrcT.row Mb0 bH rfl) dN rfl rfl rfl rfl rfl rfl rfl rfl (fun d1 eg ax dp => ⟨_, (.there (.there (.there (.there (.there (.there (.there (.there .here)))))))), ?_⟩))
     refine Ow.shift (Re0 (Sd ?_))
     refine Ea Z<|fb<|fa<|Em Z<|Em Z<|?_
     obtain ⟨e1, b5, H⟩ := bnd H
     have aP := o.mono ax
     obtain ⟨eL, bl, c3⟩ := RowR.at aP b5
     obtain rfl := c3
     refine Eq Z (gy (T := Ty.i64) Mb5 aP bl (fK b5).1 rfl rfl rfl rfl rfl) ?_
     refine ff rfl (gV (T := Ty.i64) (vs := [(Vi 1)]) (r' := [(Vi 1)]) (l' := (f6 D c 1)) rfl rfl rfl rfl rfl (.there (.there (.there (.there (.there .here))))) aP bl rfl rfl rfl (RowR.set c aP rfl) (fun cF => ?_))
     have er := iV bl (v := [(Vi 1)])
     refine fb<|gz<|gz<|gz<|gz<|gz<|gz<|gz<|gz<|gz<|gz<|gz<|?_
     have dq := t.mono ax
     have dr := ag.mono ax
     have ds := aN.mono ax
     have dt := aO.mono ax
     exact Sd ⟨_, by exact R10, L, N, (f6 D c 1), (V.set c.toNat [(Vi 1)]), S, W, d1, d9, X, E, Y, F, J, P, rfl, rfl, H, dq, cF, dr, dp, ds, dt⟩
    ·intro bi
     have H := f0 (btf bi) H
     refine fc<|fa<|Em Z<|Em Z<|?_
     obtain ⟨ea, b6, H⟩ := bnd H
     obtain ⟨eM, bP, c4⟩ := RowR.at o b6
     obtain rfl := c4
     refine Eq Z (gy (T := Ty.i64) Mb5 o bP (fK b6).1 rfl rfl rfl rfl rfl)<|El (Vi ea) Z (gP (T := Ty.i64) Mb5 o bP rfl rfl)<|Ec Z<|Ea Z<|fb<|?_
     refine fm rfl ?_ ?_
     ·intro au
      obtain ⟨au, H⟩ := It au H
      refine fc<|fa<|Ea Z<|fb<|fc<|fa<|Ea Z<|fb<|fc<|?_
      obtain ⟨e2, b7, H⟩ := bnd H
      obtain ⟨eb, b8, H⟩ := bnd H
      obtain ⟨cv, b9, H⟩ := bnd H
      obtain ⟨ab, be, ec, dO, H⟩ := kO H
      refine fq _ rfl (Ic Mb1 (Ic Mb2 (Ic Mb3 (Ic Mb4 (Ic Mb5 (Ic Mb6 (Ic Mb7 (Ic Mb8 (Ic Mb9 (Ic tG In0))))))))))<|Jm 1 Z<|Jm 2 Z<|Jm 3 Z<|?_
      have bs := (bv.mono af).mono aL
      obtain ⟨eN, bQ, c5⟩ := RowR.at bs b7
      obtain ⟨d2, rfl, bW⟩ := c5
      refine Jq 4 Z (gy (T := (Ty.sl gK)) Mb7 bs bQ (fK b7).1 rfl rfl rfl rfl rfl)<|Jl 5 (sv d2) Z (gP (T := (Ty.sl gK)) Mb7 bs bQ rfl rfl)<|Jm 6 Z<|Jm 7 Z<|?_
      obtain ⟨eO, bR, c6⟩ := RowR.at t b8
      obtain rfl := c6
      refine Jq 8 Z (gy (T := Ty.i64) Mb3 t bR (fK b8).1 rfl rfl rfl rfl rfl)<|Jl 9 (Vi eb) Z (gP (T := Ty.i64) Mb3 t bR rfl rfl)<|?_
      obtain ⟨eP, c7, cT⟩ := Slr.at bW b9
      obtain ⟨cp, cq, rfl, du, dv⟩ := c7
      refine Jq 10 Z (Qi (T := gK) bW b9 Z)<|JL 11 7 (fj cv cp cq) Z (Rdc.k cT rfl)<|?_
      refine gx 0 (by kernel_rfl) (Jyq Z (ji (m := 3) (cs := (fh (fY.mk E F J) X Y)) rfl rfl rfl rfl ⟨rfl, Rb0 Z⟩) ⟨(Ic Mb1 (Ic Mb2 (Ic Mb3 (Ic Mb4 (Ic Mb5 (Ic Mb6 (Ic Mb7 (Ic Mb8 (Ic Mb9 (Ic tG In0)))))))))), ?_⟩)
      refine Ao 12 Z ?_
      refine Ek Tryz.call24 Z (BW (fY.mk E F J) X Y c cv cp cq ab be ec dO _ _ aN aO du dv) ?_
      rintro _ bG _ ay ⟨ba, bb, bc, rfl, rfl, dw, dx, bt⟩
      refine ⟨(Ic Mb2 (Ic Mb3 (Ic Mb4 (Ic Mb5 (Ic Mb6 (Ic Mb7 (Ic Mb8 (Ic Mb9 (Ic tG (Ic Dx In0)))))))))), ?_⟩
      refine Jm 13 Z<|Jx 14 Z<|Jx 15 Z<|Jx 16 Z<|?_
      refine Ao 17 Z ?_
      refine Sa (fh ab ba bb) Z (.there .here) Z ⟨(Ic Mb2 (Ic Mb3 (Ic Mb4 (Ic Mb5 (Ic Mb6 (Ic Mb7 (Ic Mb8 (Ic Mb9 (Ic tG (Ic Dx In0)))))))))), ?_⟩
      refine Ja 18 Z<|Ja 19 Z<|Ad<|?_
      refine fz (fun u a n => ∃ (aZ : ad1) (a5 : List (List Value)), [(4, (Vp p)), (7, (Vp j)), (8, (Vp s)), (9, (sv h)), (10, (Vp A)), (11, (sv y)), (12, (sv z)), (13, (sv M)), (14, (sv x)), (15, (Vi w)), (17, (sv bc))] = u ∧ bG = a ∧ (.blk A 60 (fh ab ba bb)) :: (.blk s 27 (fp b e f)) :: (.blk j 99 (fE (fg.mk g.list P ((fg.mk g.list B C).value)) O)) :: (.blk p 27 (fp (fP.mk [] [] 0) fA fA)) :: (.row (sv z) 3 1 a5.flatten) :: (.tok 67 6 [(sv bc)]) :: (.row (sv y) 3 1 N.flatten) :: (.row (sv M) 38 5 W.flatten) :: (.tok 40 8 [(sv x)]) :: (.row (sv h) 52 1 aa.flatten) :: (.tok 3 1 [(sv e)]) :: (.tok 36 1 [(sv f)]) :: G = n ∧ og ac L S U w be ab b g P B C aE aZ = some (I, Q, R) ∧ RowR Ty.i64 a a5 aZ) ?_ ?_
      ·refine fc<|fa<|Em Z<|fb<|?_
       refine fm rfl ?_ ?_
       ·intro bj
        have H := ift bj H
        refine fa<|Em Z<|Em Z<|?_
        obtain ⟨e3, ca, H⟩ := bnd H
        have aQ := o.mono ay
        obtain ⟨eQ, bm, c8⟩ := RowR.at aQ ca
        obtain rfl := c8
        refine Eq Z (gy (T := Ty.i64) Mb6 aQ bm (fK ca).1 rfl rfl rfl rfl rfl) ?_
        refine ff rfl (gV (T := Ty.i64) (vs := [(Vi 2)]) (r' := [(Vi 2)]) (l' := (f6 D c 2)) rfl rfl rfl rfl rfl (.there (.there (.there (.there (.there (.there .here)))))) aQ bm rfl rfl rfl (RowR.set c aQ rfl) (fun cH => ?_))
        have es := iV bm (v := [(Vi 2)])
        exact fb<|jb<|jb<|jb<|jb<|jb<|gz<|Pu6<|jb<|jb<|jb<|jb<|jb<|Sd<|⟨_, by exact R11, (f6 D c 2), (V.set c.toNat [(Vi 2)]), rfl, rfl, rfl, H, cH⟩
       ·intro bj
        have H := f0 (btf bj) H
        refine ft<|jb<|jb<|jb<|jb<|jb<|gz<|Pu6<|jb<|jb<|jb<|jb<|jb<|?_
        have dy := o.mono ay
        exact Sd ⟨_, by exact R11, D, V, rfl, rfl, rfl, H, dy⟩
      rintro _ _ _ - ⟨aZ, a5, rfl, rfl, rfl, H, cG⟩
      unfold og at H
      refine fc<|fa<|Em Z<|Eq Z (ge (T := fW) bt rfl rfl)<|Em Z<|fb<|fB<|?_
      refine f8 (fun cn u a n => ∃ (am : ad1) (aH : List (List Value)) (an : ad5) (aI : List (List Value)) (aD : Int), [(4, (Vp p)), (7, (Vp j)), (8, (Vp s)), (9, (sv h)), (10, (Vp A)), (11, (sv y)), (12, (sv z)), (13, (sv M)), (14, (sv x)), (15, (Vi w)), (109, (sv bc)), (110, (Vi (be.length : Int))), (111, (Vi aD))] = u ∧ bG = a ∧ (.blk A 60 (fh ab ba bb)) :: (.blk s 27 (fp b e f)) :: (.blk j 99 (fE (fg.mk g.list P ((fg.mk g.list B C).value)) O)) :: (.blk p 27 (fp (fP.mk [] [] 0) fA fA)) :: (.row (sv z) 3 1 aH.flatten) :: (.row (sv M) 38 5 aI.flatten) :: (.tok 67 6 [(sv bc)]) :: (.row (sv y) 3 1 N.flatten) :: (.tok 40 8 [(sv x)]) :: (.row (sv h) 52 1 aa.flatten) :: (.tok 3 1 [(sv e)]) :: (.tok 36 1 [(sv f)]) :: G = n ∧ lp3 (vk ac L U w be ab b g P B C aE) cn am an aD = some (I, Q, R) ∧ RowR Ty.i64 a aH am ∧ RowR fN a aI an) BIG ?_ ?_
      ·refine jb<|jb<|jb<|jb<|gz<|gz<|jb<|jb<|jb<|jb<|jb<|jb<|?_
       have dz := ag.mono ay
       exact Sd ⟨_, by exact R13, aZ, a5, S, W, 0, rfl, rfl, rfl, H, cG, dz⟩
      rintro cn _ _ _ - ⟨am, aH, an, aI, aD, rfl, rfl, rfl, H, aA, aB⟩
      obtain ⟨eF, eD, rfl, cW, H⟩ := xO H
      unfold vk at H
      refine fc<|fa<|Ec Z<|fb<|fc<|?_
      refine fm rfl ?_ ?_
      ·intro av
       obtain ⟨av, H⟩ := It av H
       refine ft<|fc<|fB<|fc<|fa<|?_
       obtain ⟨i, cb, H⟩ := bnd H
       obtain ⟨_, rfl, cU⟩ := Slr.at bt cb
       refine Eq Z (Qi (T := fW) bt cb Z)<|EL 6 (fM i) Z (Rdc.k cU rfl)<|?_
       refine ff rfl (fC (cs := (fM (Done.mk 0 (Result.mk 0 0 0 false 0)))) rfl rfl rfl rfl (fun em => ?_))
       refine ff rfl (Sa (fM i) Z .here Z ?_)
       refine fb<|fc<|fa<|Em Z<|EF 0 Z<|El (Vi i.thread) Z (Rb0 Z)<|EF 1 Z<|EL 5 (fe i.result) Z (Rb0 Z)<|?_
       obtain ⟨e4, cc, H⟩ := bnd H
       obtain ⟨eR, bn, c9⟩ := RowR.at aB cc
       obtain rfl := c9
       refine Eq Z (gy (T := fN) Mb6 aB bn (fK cc).1 rfl rfl rfl rfl rfl) ?_
       refine ff rfl (gV (T := fN) (vs := (fe i.result)) (r' := (fe i.result)) (l' := (f6 an i.thread i.result)) rfl rfl rfl rfl rfl (.there (.there (.there (.there (.there (.there .here)))))) aB bn rfl rfl rfl (RowR.set i.thread aB rfl) (fun cI => ?_))
       have et := iV bn (v := (fe i.result))
       refine fb<|fa<|Em Z<|EF 0 Z<|El (Vi i.thread) Z (Rb0 Z)<|?_
       obtain ⟨e5, cd, H⟩ := bnd H
       obtain ⟨eS, bo, da⟩ := RowR.at aA cd
       obtain rfl := da
       refine Eq Z (gy (T := Ty.i64) Mb5 aA bo (fK cd).1 rfl rfl rfl rfl rfl) ?_
       refine ff rfl (gV (T := Ty.i64) (vs := [(Vi 3)]) (r' := [(Vi 3)]) (l' := (f6 am i.thread 3)) rfl rfl rfl rfl rfl (.there (.there (.there (.there (.there .here))))) aA bo rfl rfl rfl (RowR.set i.thread aA rfl) (fun cJ => ?_))
       have eu := iV bo (v := [(Vi 3)])
       exact fb<|fa<|Er (wI (aD + 1)) Z<|Em Z<|fb<|pK<|pK<|pK<|pK<|pK<|pK<|pK<|pK<|pK<|pK<|pK<|pK<|Re12<|Sd<|⟨_, by exact R13, _, Nat.lt_succ_self _, (f6 am i.thread 3), (aH.set i.thread.toNat [(Vi 3)]), (f6 an i.thread i.result), (aI.set i.thread.toNat (fe i.result)), (wI (aD + 1)), rfl, rfl, rfl, (cW ▸ H), cJ, cI⟩
      ·intro av
       obtain ⟨av, H⟩ := If av H
       refine ga<|jb<|jb<|jb<|jb<|Pu9<|Pu9<|jb<|gz<|gz<|gz<|gz<|Re11<|?_
       have dA := t.mono ay
       have dB := aC.mono ay
       exact Sd ⟨_, by exact R10, L, N, am, aH, an, aI, x, U, ba, ab.chans, bb, ab.waiting, ab.tick, P, rfl, rfl, H, dA, aA, aB, dB, dw, dx⟩
     ·intro au
      obtain ⟨au, H⟩ := If au H
      refine fc<|fa<|Em Z<|Em Z<|?_
      obtain ⟨ed, ce, H⟩ := bnd H
      obtain ⟨eT, bS, db⟩ := RowR.at o ce
      obtain rfl := db
      refine Eq Z (gy (T := Ty.i64) Mb5 o bS (fK ce).1 rfl rfl rfl rfl rfl)<|El (Vi ed) Z (gP (T := Ty.i64) Mb5 o bS rfl rfl)<|Ec Z<|Ea Z<|fb<|?_
      refine fm rfl ?_ ?_
      ·intro aw
       obtain ⟨aw, H⟩ := It aw H
       refine fc ?_
       obtain ⟨ap, cf, H⟩ := bnd H
       obtain ⟨aq, cg, H⟩ := bnd H
       obtain ⟨ee, dP, H⟩ := bnd H
       refine fq _ rfl (Ic Mb0 (Ic Mb1 (Ic Mb2 (Ic Mb3 (Ic Mb4 (Ic Mb5 (Ic Mb6 (Ic Mb8 (Ic Mb9 (Ic tG In0))))))))))<|Jm 0 Z<|Jm 1 Z<|Jm 2 Z<|Jm 3 Z<|?_
       obtain ⟨eU, bT, dc⟩ := RowR.at t cf
       obtain rfl := dc
       refine Jq 4 Z (gy (T := Ty.i64) Mb4 t bT (fK cf).1 rfl rfl rfl rfl rfl)<|Jl 5 (Vi ap) Z (gP (T := Ty.i64) Mb4 t bT rfl rfl)<|Jm 6 Z<|Jm 7 Z<|?_
       obtain ⟨eV, bU, dd⟩ := RowR.at ag cg
       obtain rfl := dd
       refine Jq 8 Z (gy (T := fN) Mb6 ag bU (fK cg).1 rfl rfl rfl rfl rfl)<|JL 9 5 (fe aq) Z (gP (T := fN) Mb6 ag bU rfl rfl)<|Jq 10 Z (fF (cs := (fJ (Event.mk c ap true aq))) rfl rfl rfl rfl rfl rfl)<|?_
       refine Ao 11 Z ?_
       have bI : RowR f5 aK [(fJ (Event.mk c ap true aq))] [(Event.mk c ap true aq)] := RowR.cons rfl (RowR.nil)
       refine gg (T := f5) (rows := [(fJ (Event.mk c ap true aq))]) (l := [(Event.mk c ap true aq)]) rfl rfl rfl bI rfl rfl rfl rfl rfl rfl rfl rfl (fun e0 => ⟨(Ic Mb1 (Ic Mb2 (Ic Mb3 (Ic Mb4 (Ic Mb5 (Ic Mb6 (Ic Mb7 (Ic Mb9 (Ic tG (Ic Dx In0)))))))))), ?_⟩)
       refine Ao 12 Z ?_
       refine f7 (T := f5) (bytes := 64) (q := 0) rfl rfl rfl aC Mb8 rfl (SrcT.row Mb0 bI rfl) dP rfl rfl rfl rfl rfl rfl rfl rfl (fun d3 eh az dC => ⟨_, (.there (.there (.there (.there (.there (.there (.there (.there .here)))))))), ⟨(Ic Mb1 (Ic Mb2 (Ic Mb3 (Ic Mb4 (Ic Mb5 (Ic Mb6 (Ic Mb7 (Ic Mb9 (Ic tG (Ic Dx In0)))))))))), ?_⟩⟩)
       refine Aw.shift (Re0 (Sd ⟨(Ic Mb0 (Ic Mb1 (Ic Mb2 (Ic Mb3 (Ic Mb4 (Ic Mb5 (Ic Mb6 (Ic Mb8 (Ic Mb9 (Ic tG In0)))))))))), ?_⟩))
       refine Ja 13 Z<|Ad<|fc<|fa<|Em Z<|Em Z<|?_
       obtain ⟨ad, ch, H⟩ := bnd H
       have ah := t.mono az
       obtain ⟨eW, bV, de⟩ := RowR.at ah ch
       obtain rfl := de
       refine Eq Z (gy (T := Ty.i64) Mb4 ah bV (fK ch).1 rfl rfl rfl rfl rfl)<|El (Vi ad) Z (gP (T := Ty.i64) Mb4 ah bV rfl rfl)<|Er (wI (ad + 1)) Z<|?_
       obtain ⟨e6, ci, H⟩ := bnd H
       obtain ⟨eX, bp, df⟩ := RowR.at ah ci
       obtain rfl := df
       refine Eq Z (gy (T := Ty.i64) Mb4 ah bp (fK ci).1 rfl rfl rfl rfl rfl) ?_
       refine ff rfl (gV (T := Ty.i64) (vs := [(Vi (wI (ad + 1)))]) (r' := [(Vi (wI (ad + 1)))]) (l' := (f6 L c (wI (ad + 1)))) rfl rfl rfl rfl rfl (.there (.there (.there (.there .here)))) ah bp rfl rfl rfl (RowR.set c ah rfl) (fun cK => ?_))
       have ev := iV bp (v := [(Vi (wI (ad + 1)))])
       refine fb<|fa<|Em Z<|Em Z<|?_
       obtain ⟨e7, cj, H⟩ := bnd H
       have aR := o.mono az
       obtain ⟨eY, bq, dg⟩ := RowR.at aR cj
       obtain rfl := dg
       refine Eq Z (gy (T := Ty.i64) Mb5 aR bq (fK cj).1 rfl rfl rfl rfl rfl) ?_
       refine ff rfl (gV (T := Ty.i64) (vs := [(Vi 0)]) (r' := [(Vi 0)]) (l' := (f6 D c 0)) rfl rfl rfl rfl rfl (.there (.there (.there (.there (.there .here))))) aR bq rfl rfl rfl (RowR.set c aR rfl) (fun cL => ?_))
       have ew := iV bq (v := [(Vi 0)])
       refine fb<|gz<|gz<|gz<|gz<|gz<|gz<|gz<|gz<|gz<|gz<|gz<|?_
       have dD := ag.mono az
       have dE := aN.mono az
       have dF := aO.mono az
       exact Sd ⟨_, by exact R10, (f6 L c (wI (ad + 1))), (N.set c.toNat [(Vi (wI (ad + 1)))]), (f6 D c 0), (V.set c.toNat [(Vi 0)]), S, W, d3, ee, X, E, Y, F, J, P, rfl, rfl, H, cK, cL, dD, dC, dE, dF⟩
      ·intro aw
       obtain ⟨aw, H⟩ := If aw H
       exact ft<|gz<|gz<|gz<|gz<|gz<|gz<|gz<|gz<|gz<|gz<|gz<|Sd<|⟨_, by exact R10, L, N, D, V, S, W, x, U, X, E, Y, F, J, P, rfl, rfl, H, t, o, ag, aC, aN, aO⟩
   rintro _ ei _ ex ⟨aV, a2, aW, a3, aX, a4, aJ, aY, a8, aF, a9, aG, aT, aU, rfl, rfl, H, cC, cD, cE, dj, dk, dl⟩
   unfold pj at H
   exact fa<|Em Z<|Er (wI (w + 1)) Z<|Ea Z<|fb<|gz<|gz<|gz<|gz<|gz<|gz<|gz<|gz<|gz<|gz<|gz<|Sd<|⟨_, by exact R10, _, Nat.lt_succ_self _, aV, a2, aW, a3, aX, a4, aJ, aY, (wI (w + 1)), a8, aF, a9, aG, aT, aU, ((fg.mk g.list B C).value), rfl, rfl, (cV ▸ H), cC, cD, cE, dj, dk, dl⟩
  ·intro bh
   have H := f0 (btf bh) H
   exact ga<|gz<|gz<|gz<|gz<|Pu7<|Pu6<|Re6<|Re6<|Re6<|Re6<|Re6<|Sd<|⟨_, by exact R4, x, U, rfl, rfl, H, aC⟩
 rintro _ ej _ bk ⟨ak, bw, rfl, rfl, H, dh⟩
 unfold vj at H
 refine fc<|fa<|EL 3 (fp b e f) Z (Rb0 Z)<|Em Z<|Em Z<|?_
 refine ff rfl (Sa (fp b e f) Z (.there .here) Z ?_)
 refine Ea Z<|Ea Z<|fb<|fy<|?_
 obtain ⟨en, eo, ep⟩ := jH H
 subst I Q R
 refine ⟨(.inl rfl), [(.agg (fp b e f).toArray), (sv h), (sv ak)], ⟨(.agg (fp b e f).toArray), _, rfl, ⟨_, 3, (fp b e f), rfl, rfl, rfl, rfl, ⟨rfl, Rb1 Z⟩, rfl⟩, ⟨(sv h), _, rfl, rfl, ⟨(sv ak), _, rfl, rfl, rfl⟩⟩⟩, ?_⟩
 refine Pu2<|Pu3<|Pu5<|Pu5<|Re4<|Re4<|?_
 have dG := (b0.mono af).mono bk
 have dH := (b1.mono af).mono bk
 have dI := (bv.mono af).mono bk
 exact Sd ⟨e, f, h, aa, ak, rfl, rfl, dG, dH, dI, dh⟩
end Go.Hx
namespace Go.Hx
open Go Go.Proofs
set_option maxRecDepth 10000
set_option maxHeartbeats 1000000
theorem pV (p0 : Op) (b : SV) (f : SV) (p1 : Result) (c : Case) (e : Bool) (H : mQ p0 p1 = some (c, e)) (K : Kp) (G : List Ent) (l : Slr fV K (sv b) p0.cases) (B : Slr Ty.i64 K (sv f) p0.draws) :
  Fc Tryz.prog 109 #[(.agg (fj p0 b f).toArray), (.agg (fe p1).toArray)] K (G) (fun v n m => v = (.tuple #[(.agg (fk c).toArray), (.bool e)]) ∧ K = n ∧ G = m) := by
 refine fO Tryz.func109 rfl Tryz.ntmps109 Tryz.results109 rfl ?_
 unfold mQ at H
 refine fc<|fa<|?_
 refine ff rfl (fU (cs := (fj p0 b f)) rfl rfl rfl (fun s => ?_))
 refine ff rfl (fU (cs := (fe p1)) rfl rfl rfl (fun t => ?_))
 refine ff rfl (fC (cs := (fk (Case.mk false 0 0))) rfl rfl rfl rfl (fun u => ?_))
 refine Ea Z<|fb<|fc<|fc<|fa<|EF 0 Z<|El (Vi p0.kind) Z (Rb2 Z)<|Ec Z<|fb<|?_
 refine fm rfl ?_ ?_
 ·intro g
  obtain ⟨g, H⟩ := It g H
  refine fc ?_
  refine fz (fun z n m => ∃ (r : Bool), [(2, (Vp s)), (3, (Vp t)), (4, (Vp u)), (21, (.bool r))] = z ∧ K = n ∧ (.blk u 108 (fk (Case.mk false 0 0))) :: (.blk t 38 (fe p1)) :: (.blk s 51 (fj p0 b f)) :: G = m ∧ rr p1 p0 r = some (c, e)) ?_ ?_
  ·refine fa<|EF 1 Z<|El (Vi p1.case_) Z (Rb1 Z)<|Ec Z<|Em Z<|?_
   refine Ee Z ?_ ?_
   ·intro h
    obtain ⟨h, H⟩ := It h H
    exact Ez Z<|Ez Z<|Ez Z<|Ez Z<|Ez Z<|Ez Z<|Et Z<|fb<|Pu2<|Pu2<|Pu2<|Sd<|⟨_, by exact R4, true, rfl, rfl, rfl, H⟩
   ·intro h
    obtain ⟨h, H⟩ := If h H
    exact VF 1 Z<|Vl (Vi p1.case_) Z (Rb1 Z)<|VF 5 Z<|Vl (sv b) Z (Rb2 Z)<|Vq Z (ge (T := fV) l rfl rfl)<|Vc Z<|Ef Z<|fb<|Pu2<|Pu2<|Pu2<|Sd<|⟨_, by exact R4, (dcd (p1.case_ ≥ (p0.cases.length : Int))), rfl, rfl, rfl, H⟩
  rintro _ _ _ - ⟨r, rfl, rfl, rfl, H⟩
  unfold rr at H
  refine fm rfl ?_ ?_
  ·intro q
   have H := ift q H
   refine fc<|fa<|Eq Z (fF (cs := (fk (Case.mk false 0 0))) rfl rfl rfl rfl rfl rfl)<|?_
   refine ff rfl (Sa (fk (Case.mk false 0 0)) Z .here Z ?_)
   refine Ea Z<|fb<|fy<|?_
   obtain ⟨o, p⟩ := hX H
   subst c e
   refine ⟨(.inl rfl), [(.agg (fk (Case.mk false 0 0)).toArray), (.bool false)], ⟨(.agg (fk (Case.mk false 0 0)).toArray), _, rfl, ⟨_, 3, (fk (Case.mk false 0 0)), rfl, rfl, rfl, rfl, ⟨rfl, Rb0 Z⟩, rfl⟩, ⟨(.bool false), _, rfl, rfl, rfl⟩⟩, ?_⟩
   exact Re0<|Re0<|Re0<|Sd<|⟨rfl, rfl, rfl⟩
  ·intro q
   have H := f0 (btf q) H
   refine ft<|fc<|fa<|EF 5 Z<|El (sv b) Z (Rb2 Z)<|EF 1 Z<|El (Vi p1.case_) Z (Rb1 Z)<|?_
   obtain ⟨j, x, H⟩ := bnd H
   obtain ⟨_, rfl, A⟩ := Slr.at l x
   refine Eq Z (Qi (T := fV) l x Z)<|EL 3 (fk j) Z (Rdc.k A rfl)<|?_
   refine ff rfl (Sa (fk j) Z .here Z ?_)
   refine Ea Z<|fb<|fy<|?_
   obtain ⟨o, p⟩ := hX H
   subst c e
   refine ⟨(.inl rfl), [(.agg (fk j).toArray), (.bool true)], ⟨(.agg (fk j).toArray), _, rfl, ⟨_, 3, (fk j), rfl, rfl, rfl, rfl, ⟨rfl, Rb0 Z⟩, rfl⟩, ⟨(.bool true), _, rfl, rfl, rfl⟩⟩, ?_⟩
   exact Re0<|Re0<|Re0<|Sd<|⟨rfl, rfl, rfl⟩
 ·intro g
  obtain ⟨g, H⟩ := If g H
  refine ft<|fc<|fa<|EL 7 (fj p0 b f) Z (Rb2 Z)<|?_
  obtain ⟨a, y, C, H⟩ := ix H
  refine ff rfl (Ek Tryz.call81 Z (zo p0 b f a y C _ _ l B) ?_)
  rintro _ _ _ - ⟨rfl, rfl, rfl⟩
  refine Em Z<|Ex Z<|Ex Z<|?_
  refine ff rfl (fC (cs := (fk (Case.mk false 0 0))) rfl rfl rfl rfl (fun D => ?_))
  refine ff rfl (Sa (fk a) Z .here Z ?_)
  refine Ea Z<|fb<|fc<|?_
  rcases gQ y with w | w <;> revert w
  ·intro i
   have H := ift i H
   refine fq _ rfl (Ic Mb0 (Ic Mb2 (Ic Mb3 In0)))<|JL 0 3 (fk a) Z (Rb0 Z)<|Jm 1 Z<|Jm 2 Z<|Aw.known (d := 36) rfl (i)<|BF 3 1 Z<|Bl 4 (Vi p1.case_) Z (Rb1 Z)<|Bc 5 Z<|Jt 6 Z<|?_
   refine Ao 7 Z ?_
   refine Sa (fk a) Z (.there .here) Z ⟨(Ic Mb0 (Ic Mb2 (Ic Mb3 In0))), ?_⟩
   refine Ja 8 Z<|Ad<|fy<|?_
   obtain ⟨o, p⟩ := hX H
   subst c e
   refine ⟨(.inl rfl), [(.agg (fk a).toArray), (.bool (dcd (p1.case_ = (-1))))], ⟨(.agg (fk a).toArray), _, rfl, ⟨_, 3, (fk a), rfl, rfl, rfl, rfl, ⟨rfl, Rb1 Z⟩, rfl⟩, ⟨(.bool (dcd (p1.case_ = (-1)))), _, rfl, rfl, rfl⟩⟩, ?_⟩
   exact Re0<|Re0<|Re0<|Re0<|Sd<|⟨rfl, rfl, rfl⟩
  ·intro i
   have H := f0 (btf i) H
   refine fq _ rfl (Ic Mb0 (Ic Mb2 (Ic Mb3 In0)))<|JL 0 3 (fk a) Z (Rb0 Z)<|Jm 1 Z<|Jm 2 Z<|Aw.known (d := 36) rfl (i)<|Jz 3 Z<|Jz 4 Z<|Jz 5 Z<|Jf 6 Z<|?_
   refine Ao 7 Z ?_
   refine Sa (fk a) Z (.there .here) Z ⟨(Ic Mb0 (Ic Mb2 (Ic Mb3 In0))), ?_⟩
   refine Ja 8 Z<|Ad<|fy<|?_
   obtain ⟨o, p⟩ := hX H
   subst c e
   refine ⟨(.inl rfl), [(.agg (fk a).toArray), (.bool false)], ⟨(.agg (fk a).toArray), _, rfl, ⟨_, 3, (fk a), rfl, rfl, rfl, rfl, ⟨rfl, Rb1 Z⟩, rfl⟩, ⟨(.bool false), _, rfl, rfl, rfl⟩⟩, ?_⟩
   exact Re0<|Re0<|Re0<|Re0<|Sd<|⟨rfl, rfl, rfl⟩
theorem iP (p0 : Result) (p1 : Bool) (p2 : Bool) (d : Bool) (H : lX p0 p1 p2 = some d) (K : Kp) (G : List Ent)  :
  Fc Tryz.prog 111 #[(.agg (fe p0).toArray), (.bool p1), (.bool p2)] K (G) (fun v f e => v = (.bool d) ∧ K = f ∧ G = e) := by
 refine fO Tryz.func111 rfl Tryz.ntmps111 Tryz.results111 rfl ?_
 unfold lX at H
 refine fc<|fa<|?_
 refine ff rfl (fU (cs := (fe p0)) rfl rfl rfl (fun k => ?_))
 refine Ea Z<|fb<|?_
 refine fz (fun j f e => ∃ (c : Bool), [(6, (.bool c))] = j ∧ K = f ∧ G = e ∧ mR c = some d) ?_ ?_
 ·refine fa<|Em Z<|Em Z<|?_
  refine Ee Z ?_ ?_
  ·intro g
   have H := ift g H
   refine Ez Z<|Ez Z<|Ez Z<|Ez Z<|gb rfl rfl rfl rfl rfl<|gb rfl rfl rfl rfl rfl<|gb rfl rfl rfl rfl rfl<|Ez Z<|Et Z<|Em Z<|Vm Z<|Vm Z<|?_
   refine Ee Z ?_ ?_
   ·intro h
    have H := ift h H
    exact Ez Z<|Ez Z<|Ez Z<|Vt Z<|Et Z<|Ea Z<|fb<|Re0<|Sd<|⟨_, by exact R1, true, rfl, rfl, rfl, H⟩
   ·intro h
    have H := f0 (btf h) H
    exact VF 4 Z<|Vl (Vi p0.number) Z (Rb0 Z)<|Vc Z<|Vf Z<|Et Z<|Ea Z<|fb<|Re0<|Sd<|⟨_, by exact R1, (dcd (p0.number = 0)), rfl, rfl, rfl, H⟩
  ·intro g
   have H := f0 (btf g) H
   refine VF 2 Z<|Vl (.int .u64 p0.value) Z (Rb0 Z)<|Vc Z<|Vm Z<|?_
   refine Ee Z ?_ ?_
   ·intro b
    obtain ⟨b, H⟩ := It b H
    refine VF 3 Z<|Vl (.bool p0.ok) Z (Rb0 Z)<|Vq Z (gd rfl)<|Vt Z<|Ef Z<|Em Z<|?_
    refine Ee Z ?_ ?_
    ·intro a
     have a := ir a
     have H := f0 (btf a) H
     refine Vm Z<|Vm Z<|?_
     refine Ee Z ?_ ?_
     ·intro i
      have H := ift i H
      exact Ez Z<|Ez Z<|Ez Z<|Vt Z<|Et Z<|Ea Z<|fb<|Re0<|Sd<|⟨_, by exact R1, true, rfl, rfl, rfl, H⟩
     ·intro i
      have H := f0 (btf i) H
      exact VF 4 Z<|Vl (Vi p0.number) Z (Rb0 Z)<|Vc Z<|Vf Z<|Et Z<|Ea Z<|fb<|Re0<|Sd<|⟨_, by exact R1, (dcd (p0.number = 0)), rfl, rfl, rfl, H⟩
    ·intro a
     have a := iq a
     have H := ift a H
     exact Ez Z<|Ez Z<|gb rfl rfl rfl rfl rfl<|gb rfl rfl rfl rfl rfl<|gb rfl rfl rfl rfl rfl<|Ez Z<|Ef Z<|Ea Z<|fb<|Re0<|Sd<|⟨_, by exact R1, false, rfl, rfl, rfl, H⟩
   ·intro b
    obtain ⟨b, H⟩ := If b H
    exact Ez Z<|Ez Z<|Ez Z<|Vf Z<|Ef Z<|Em Z<|Ez Z<|Ez Z<|gb rfl rfl rfl rfl rfl<|gb rfl rfl rfl rfl rfl<|gb rfl rfl rfl rfl rfl<|Ez Z<|Ef Z<|Ea Z<|fb<|Re0<|Sd<|⟨_, by exact R1, false, rfl, rfl, rfl, H⟩
 rintro _ _ _ - ⟨c, rfl, rfl, rfl, H⟩
 unfold mR at H
 refine fy ?_
 obtain l := gm H
 subst d
 refine ⟨(.inl rfl), [(.bool c)], ⟨(.bool c), _, rfl, rfl, rfl⟩, ?_⟩
 exact Sd ⟨rfl, rfl, rfl⟩
theorem wq (p0 : ad0) (i : SV) (p1 : Int) (p2 : fL) (a : SV) (e : ad0) (H : sd p0 p1 p2 = some e) (K : Kp) (G : List Ent) (n : Slr fG K (sv i) p0) (o : Slr Ty.u64 K (sv a) p2.buffer) :
  Fc Tryz.prog 112 #[(sv i), (Vi p1), (.agg (fx p2 a).toArray)] K (G) (fun v f k => ∃ (j : SV) (h : List (List Value)), v = (sv j) ∧ K = f ∧ (.row (sv j) 104 3 h.flatten) :: G = k ∧ RowR fG f h e) := by
 refine fO Tryz.func112 rfl Tryz.ntmps112 Tryz.results112 rfl ?_
 unfold sd at H
 refine fc<|fa<|?_
 refine ff rfl (fU (cs := (fx p2 a)) rfl rfl rfl (fun s => ?_))
 refine Ea Z<|fb<|fc<|fa<|Em Z<|?_
 have l : RowR fG K [] [] := RowR.nil
 refine Ow.shift (Shift.nilRow 104 3 (Sd ?_))
 obtain ⟨x19, q, H⟩ := bnd H
 refine ff rfl (gW (T := fG) (bytes := 40) rfl rfl rfl Mb0 l (SrcT.sl n) q rfl rfl rfl rfl rfl rfl rfl rfl (fun d r b => ⟨_, .here, ?_⟩))
 refine Ea Z<|fb<|fc<|fa<|Em Z<|Em Z<|EL 3 (fx p2 a) Z (Rb1 Z)<|?_
 obtain ⟨z, g, H⟩ := bnd H
 obtain ⟨x, c, p⟩ := RowR.at b g
 obtain ⟨y, rfl, w⟩ := p
 refine Eq Z (gy (T := fG) Mb0 b c (fK g).1 rfl rfl rfl rfl rfl) ?_
 refine ff rfl (gV (T := fG) (vs := (fx p2 a)) (r' := (fx p2 a)) (l' := (f6 x19 p1 p2)) rfl rfl rfl rfl rfl .here b c rfl rfl rfl (RowR.set p1 b ⟨a, rfl, o⟩) (fun m => ?_))
 have u := iV c (v := (fx p2 a))
 refine fb<|fc<|fa<|Em Z<|Ea Z<|fb<|fy<|?_
 obtain t := gm H
 subst e
 refine ⟨(.inl rfl), [(sv d)], ⟨(sv d), _, rfl, rfl, rfl⟩, ?_⟩
 exact Re1<|Sd<|⟨d, (r.set p1.toNat (fx p2 a)), rfl, rfl, rfl, m⟩
theorem zq (p0 : ad0) (b : SV) (p1 : Case) (p2 : Result) (e : ad0) (f : Bool) (H : si p0 p1 p2 = some (e, f)) (K : Kp) (G : List Ent) (w : Slr fG K (sv b) p0) :
  Fc Tryz.prog 110 #[(sv b), (.agg (fk p1).toArray), (.agg (fe p2).toArray)] K (G) (fun v h g => ∃ (aA : SV), v = (.tuple #[(sv aA), (.bool f)]) ∧ G = g ∧ Slr fG h (sv aA) e) := by
 refine fO Tryz.func110 rfl Tryz.ntmps110 Tryz.results110 rfl ?_
 unfold si at H
 refine fc<|fa<|?_
 refine ff rfl (fU (cs := (fk p1)) rfl rfl rfl (fun n => ?_))
 refine ff rfl (fU (cs := (fe p2)) rfl rfl rfl (fun r => ?_))
 refine Ea Z<|Ea Z<|fb<|fc<|fc<|fa<|Em Z<|EF 1 Z<|El (Vi p1.channel) Z (Rb1 Z)<|?_
 obtain ⟨a2, aY, H⟩ := bnd H
 refine ff rfl (Ek Tryz.call107 Z (lB p0 b p1.channel a2 aY _ _ w) ?_)
 rintro _ _ _ - ⟨rfl, rfl, rfl⟩
 refine Eq Z (gd rfl)<|fb<|?_
 refine fm rfl ?_ ?_
 ·intro x
  have x := ir x
  have H := f0 (btf x) H
  refine fc<|fa<|Ea Z<|Ea Z<|fb<|fy<|?_
  obtain ⟨s, t⟩ := hX H
  subst e f
  refine ⟨(.inl rfl), [(sv fA), (.bool false)], ⟨(sv fA), _, rfl, rfl, ⟨(.bool false), _, rfl, rfl, rfl⟩⟩, ?_⟩
  exact Re0<|Re0<|Sd<|⟨fA, rfl, rfl, (Slr.nil fG _)⟩
 ·intro x
  have x := iq x
  have H := ift x H
  refine ft<|fc<|fa<|Em Z<|EF 1 Z<|El (Vi p1.channel) Z (Rb1 Z)<|?_
  obtain ⟨a, aw, H⟩ := bnd H
  obtain ⟨bk, aI, aG⟩ := Slr.at w aw
  obtain ⟨c, rfl, o⟩ := aI
  refine Eq Z (Qi (T := fG) w aw Z)<|EL 3 (fx a c) Z (Rdc.k aG rfl)<|?_
  refine ff rfl (fC (cs := (fx (fL.mk 0 [] false) fA)) rfl rfl rfl rfl (fun m => ?_))
  refine ff rfl (Sa (fx a c) Z .here Z ?_)
  refine fb<|fc<|fB<|?_
  refine fz (fun j h g => ∃ (ae : Bool), [(0, (sv b)), (4, (Vp n)), (5, (Vp r)), (8, (Vp m)), (19, (.bool ae))] = j ∧ K = h ∧ (.blk m 104 (fx a c)) :: (.blk r 38 (fe p2)) :: (.blk n 108 (fk p1)) :: G = g ∧ sh p0 a p2 p1 ae = some (e, f)) ?_ ?_
  ·refine fa<|EF 0 Z<|El (Vi p2.kind) Z (Rb1 Z)<|Ec Z<|Em Z<|?_
   refine Ee Z ?_ ?_
   ·intro F
    obtain ⟨F, H⟩ := It F H
    exact VF 0 Z<|Vl (.bool p1.send) Z (Rb2 Z)<|Et Z<|Ea Z<|fb<|Pu2<|Pu2<|Pu2<|Sd<|⟨_, by exact R5, p1.send, rfl, rfl, rfl, H⟩
   ·intro F
    obtain ⟨F, H⟩ := If F H
    exact Ez Z<|Ez Z<|Ef Z<|Ea Z<|fb<|Pu2<|Pu2<|Pu2<|Sd<|⟨_, by exact R5, false, rfl, rfl, rfl, H⟩
  rintro _ _ _ - ⟨ae, rfl, rfl, rfl, H⟩
  unfold sh at H
  refine fm rfl ?_ ?_
  ·intro S
   have H := ift S H
   refine fc ?_
   refine fz (fun j h g => ∃ (af : Bool), [(0, (sv b)), (4, (Vp n)), (8, (Vp m)), (41, (.bool af))] = j ∧ K = h ∧ (.blk m 104 (fx a c)) :: (.blk n 108 (fk p1)) :: G = g ∧ ol p0 a p1 af = some (e, f)) ?_ ?_
   ·refine fa<|EL 5 (fe p2) Z (Rb1 Z)<|?_
    obtain ⟨a3, aZ, H⟩ := bnd H
    refine ff rfl (Ek Tryz.call111 Z (iP p2 false false a3 aZ _ _ ) ?_)
    rintro _ _ _ - ⟨rfl, rfl, rfl⟩
    refine Eq Z (gd rfl)<|Em Z<|?_
    refine Ee Z ?_ ?_
    ·intro y
     have y := ir y
     have H := f0 (btf y) H
     exact Ez Z<|Ez Z<|Et Z<|Em Z<|Ez Z<|Ez Z<|Ez Z<|Ez Z<|Ez Z<|Ez Z<|Et Z<|fb<|Pu2<|Pu1<|Re2<|Sd<|⟨_, by exact R4, true, rfl, rfl, rfl, H⟩
    ·intro y
     have y := iq y
     have H := ift y H
     refine VF 2 Z<|Vl (.bool a.closed) Z (Rb0 Z)<|Ef Z<|Em Z<|?_
     refine Ee Z ?_ ?_
     ·intro U
      have H := ift U H
      exact Ez Z<|Ez Z<|Ez Z<|Ez Z<|Ez Z<|Ez Z<|Et Z<|fb<|Pu2<|Pu1<|Re2<|Sd<|⟨_, by exact R4, true, rfl, rfl, rfl, H⟩
     ·intro U
      have H := f0 (btf U) H
      exact VF 1 Z<|Vl (sv c) Z (Rb0 Z)<|Vq Z (ge (T := Ty.u64) o rfl rfl)<|VF 0 Z<|Vl (Vi a.capacity) Z (Rb0 Z)<|Vc Z<|Ef Z<|fb<|Pu2<|Pu1<|Re2<|Sd<|⟨_, by exact R4, (dcd ((a.buffer.length : Int) ≥ a.capacity)), rfl, rfl, rfl, H⟩
   rintro _ _ _ - ⟨af, rfl, rfl, rfl, H⟩
   unfold ol at H
   refine fm rfl ?_ ?_
   ·intro V
    have H := ift V H
    refine fc<|fa<|Ea Z<|Ea Z<|fb<|fy<|?_
    obtain ⟨s, t⟩ := hX H
    subst e f
    refine ⟨(.inl rfl), [(sv fA), (.bool false)], ⟨(sv fA), _, rfl, rfl, ⟨(.bool false), _, rfl, rfl, rfl⟩⟩, ?_⟩
    exact Re0<|Re0<|Sd<|⟨fA, rfl, rfl, (Slr.nil fG _)⟩
   ·intro V
    have H := f0 (btf V) H
    refine ft ?_
    refine fz (fun j h g => ∃ (D : SV) (C : ad1), [(0, (sv b)), (4, (Vp n)), (8, (Vp m))] = j ∧ (.blk m 104 (fx (fL.mk a.capacity C a.closed) D)) :: (.blk n 108 (fk p1)) :: (.tok 36 1 [(sv D)]) :: G = g ∧ vx p0 a p1 C = some (e, f) ∧ Slr Ty.u64 h (sv D) C) ?_ ?_
    ·obtain ⟨bt, ab, H⟩ := bnd H
     obtain ⟨E, ac, H⟩ := bnd H
     refine fq _ rfl (Ic Mb1 In0)<|JF 0 1 Z<|JF 3 2 Z<|Jl 4 (.int .u64 p1.value) Z (Rb0 Z)<|?_
     refine gU 1 5 (by kernel_rfl) ?_ ?_
     ·refine id (Jyq Z (gn (v := (sv c)) rfl rfl rfl (Rb0 Z)) ⟨(Ic Mb1 In0), ?_⟩)
      refine gU 2 5 (by kernel_rfl) ?_ ?_
      ·refine id (Jy Z ?_)
       refine OpW.shift (Shift.nilTok1 36 1 (Sd ?_))
       refine f7 (T := Ty.u64) (bytes := 8) (q := 0) rfl rfl rfl (Slr.nil Ty.u64 _) Mb0 rfl (SrcT.sl o) ab rfl rfl rfl rfl rfl rfl rfl rfl (fun bn aC be aK => ⟨_, .here, ⟨(Ic Mb2 In0), ?_⟩⟩)
       refine Ao 5 Z ?_
       have ar : RowR Ty.u64 aC [[(.int .u64 p1.value)]] [p1.value] := RowR.cons rfl (RowR.nil)
       refine gg (T := Ty.u64) (rows := [[(.int .u64 p1.value)]]) (l := [p1.value]) rfl rfl rfl ar rfl rfl rfl rfl rfl rfl rfl rfl (fun bo => ⟨(Ic Mb3 In0), ?_⟩)
       refine Ao 6 Z ?_
       refine f7 (T := Ty.u64) (bytes := 8) (q := 0) rfl rfl rfl aK Mb1 rfl (SrcT.row Mb0 ar rfl) ac rfl rfl rfl rfl rfl rfl rfl rfl (fun ak a6 bf aL => ⟨_, (.there .here), ⟨(Ic Mb3 In0), ?_⟩⟩)
       refine Aw.shift (Re0 (Sd ⟨(Ic Mb2 In0), ?_⟩))
       refine JF 7 1 Z ?_
       refine Ao 8 Z ?_
       refine So [(sv ak)] (fx (fL.mk a.capacity E a.closed) ak) Z (.there .here) Z ⟨(Ic Mb2 In0), ?_⟩
       exact Ad<|Pu2<|Pu2<|Sd<|⟨_, by exact R3, ak, E, rfl, rfl, H, aL⟩
      ·refine id (Jy Z ?_)
       have au : RowR Ty.u64 K [[(.int .u64 p1.value)]] [p1.value] := RowR.cons rfl (RowR.nil)
       refine gg (T := Ty.u64) (rows := [[(.int .u64 p1.value)]]) (l := [p1.value]) rfl rfl rfl au rfl rfl rfl rfl rfl rfl rfl rfl (fun bp => ⟨(Ic Mb2 In0), ?_⟩)
       refine Ao 2 Z ?_
       refine OpW.shift (Shift.nilTok1 36 1 (Sd ?_))
       refine f7 (T := Ty.u64) (bytes := 8) (q := 0) rfl rfl rfl (Slr.nil Ty.u64 _) Mb0 rfl (SrcT.sl o) ab rfl rfl rfl rfl rfl rfl rfl rfl (fun bq a7 aD aM => ⟨_, .here, ⟨(Ic Mb3 In0), ?_⟩⟩)
       refine Ao 6 Z ?_
       have aN := au.mono aD
       refine f7 (T := Ty.u64) (bytes := 8) (q := 0) rfl rfl rfl aM Mb0 rfl (SrcT.row Mb1 aN rfl) ac rfl rfl rfl rfl rfl rfl rfl rfl (fun al a8 bg aO => ⟨_, .here, ⟨(Ic Mb3 In0), ?_⟩⟩)
       refine Aw.shift (Re1 (Sd ⟨(Ic Mb2 In0), ?_⟩))
       refine JF 7 1 Z ?_
       refine Ao 8 Z ?_
       refine So [(sv al)] (fx (fL.mk a.capacity E a.closed) al) Z (.there .here) Z ⟨(Ic Mb2 In0), ?_⟩
       exact Ad<|Pu2<|Pu2<|Sd<|⟨_, by exact R3, al, E, rfl, rfl, H, aO⟩
     ·refine id (Jy Z ?_)
      have av : RowR Ty.u64 K [[(.int .u64 p1.value)]] [p1.value] := RowR.cons rfl (RowR.nil)
      refine gg (T := Ty.u64) (rows := [[(.int .u64 p1.value)]]) (l := [p1.value]) rfl rfl rfl av rfl rfl rfl rfl rfl rfl rfl rfl (fun br => ⟨(Ic Mb2 In0), ?_⟩)
      refine gx 1 (by kernel_rfl) (Jyq Z (gn (v := (sv c)) rfl rfl rfl (Rb1 Z)) ⟨(Ic Mb2 In0), ?_⟩)
      refine Ao 2 Z ?_
      refine OpW.shift (Shift.nilTok1 36 1 (Sd ?_))
      refine f7 (T := Ty.u64) (bytes := 8) (q := 0) rfl rfl rfl (Slr.nil Ty.u64 _) Mb0 rfl (SrcT.sl o) ab rfl rfl rfl rfl rfl rfl rfl rfl (fun bs a9 aE aP => ⟨_, .here, ⟨(Ic Mb3 In0), ?_⟩⟩)
      refine Ao 6 Z ?_
      have aQ := av.mono aE
      refine f7 (T := Ty.u64) (bytes := 8) (q := 0) rfl rfl rfl aP Mb0 rfl (SrcT.row Mb1 aQ rfl) ac rfl rfl rfl rfl rfl rfl rfl rfl (fun am ba bh aR => ⟨_, .here, ⟨(Ic Mb3 In0), ?_⟩⟩)
      refine Aw.shift (Re1 (Sd ⟨(Ic Mb2 In0), ?_⟩))
      refine JF 7 1 Z ?_
      refine Ao 8 Z ?_
      refine So [(sv am)] (fx (fL.mk a.capacity E a.closed) am) Z (.there .here) Z ⟨(Ic Mb2 In0), ?_⟩
      exact Ad<|Pu2<|Pu2<|Sd<|⟨_, by exact R3, am, E, rfl, rfl, H, aR⟩
    rintro _ bb _ aF ⟨D, C, rfl, rfl, H, aJ⟩
    unfold vx at H
    refine fc<|fa<|Em Z<|EF 1 Z<|El (Vi p1.channel) Z (Rb1 Z)<|EL 3 (fx (fL.mk a.capacity C a.closed) D) Z (Rb0 Z)<|?_
    obtain ⟨a4, a0, H⟩ := bnd H
    have aS := w.mono aF
    refine ff rfl (Ek Tryz.call112 Z (wq p0 b p1.channel (fL.mk a.capacity C a.closed) D a4 a0 _ _ aS aJ) ?_)
    rintro _ _ _ - ⟨an, bl, rfl, rfl, rfl, aT⟩
    refine Ea Z<|Ea Z<|fb<|fy<|?_
    obtain ⟨s, t⟩ := hX H
    subst e f
    refine ⟨(.inl rfl), [(sv an), (.bool true)], ⟨(sv an), _, rfl, rfl, ⟨(.bool true), _, rfl, rfl, rfl⟩⟩, ?_⟩
    refine Shift.settle (T := fG) .here aT rfl ?_
    intro bc bi aU
    exact Re0<|Re0<|Re0<|Re0<|Sd<|⟨an, rfl, rfl, aU⟩
  ·intro S
   have H := f0 (btf S) H
   refine fz (fun j h g => ∃ (ag : Bool), [(0, (sv b)), (4, (Vp n)), (5, (Vp r)), (8, (Vp m)), (55, (.bool ag))] = j ∧ K = h ∧ (.blk m 104 (fx a c)) :: (.blk r 38 (fe p2)) :: (.blk n 108 (fk p1)) :: G = g ∧ sg p0 a p2 p1 ag = some (e, f)) ?_ ?_
   ·refine fa<|EF 0 Z<|El (Vi p2.kind) Z (Rb1 Z)<|Ec Z<|Em Z<|?_
    refine Ee Z ?_ ?_
    ·intro I
     obtain ⟨I, H⟩ := It I H
     exact VF 0 Z<|Vl (.bool p1.send) Z (Rb2 Z)<|Et Z<|Ea Z<|fb<|Pu2<|Pu2<|Pu2<|Sd<|⟨_, by exact R5, p1.send, rfl, rfl, rfl, H⟩
    ·intro I
     obtain ⟨I, H⟩ := If I H
     exact Ez Z<|Ez Z<|Ef Z<|Ea Z<|fb<|Pu2<|Pu2<|Pu2<|Sd<|⟨_, by exact R5, false, rfl, rfl, rfl, H⟩
   rintro _ _ _ - ⟨ag, rfl, rfl, rfl, H⟩
   unfold sg at H
   refine fm rfl ?_ ?_
   ·intro W
    have H := ift W H
    refine fc ?_
    obtain ⟨ap, ax, H⟩ := bnd H
    rcases gQ ap with i | i <;> revert i
    ·intro J
     have H := ift J H
     refine fq _ rfl (Ic Mb0 (Ic Mb1 (Ic Mb2 In0)))<|Jm 0 Z<|JL 1 5 (fe p2) Z (Rb1 Z)<|?_
     refine Ao 2 Z ?_
     refine Ek Tryz.call111 Z (iP p2 false false ap ax _ _ ) ?_
     rintro _ _ _ - ⟨rfl, rfl, rfl⟩
     refine ⟨(Ic Mb0 (Ic Mb1 (Ic Mb2 In0))), ?_⟩
     refine Jm 3 Z<|Aw.known (d := 66) rfl (J)<|BF 4 2 Z<|Bl 5 (.bool a.closed) Z (Rb0 Z)<|Jt 6 Z<|Ja 7 Z<|Ja 8 Z<|Ad<|fy<|?_
     obtain ⟨s, t⟩ := hX H
     subst e f
     refine ⟨(.inl rfl), [(sv b), (.bool a.closed)], ⟨(sv b), _, rfl, rfl, ⟨(.bool a.closed), _, rfl, rfl, rfl⟩⟩, ?_⟩
     exact Re0<|Re0<|Re0<|Sd<|⟨b, rfl, rfl, w⟩
    ·intro J
     have H := f0 (btf J) H
     refine fq _ rfl (Ic Mb0 (Ic Mb1 (Ic Mb2 In0)))<|Jm 0 Z<|JL 1 5 (fe p2) Z (Rb1 Z)<|?_
     refine Ao 2 Z ?_
     refine Ek Tryz.call111 Z (iP p2 false false ap ax _ _ ) ?_
     rintro _ _ _ - ⟨rfl, rfl, rfl⟩
     refine ⟨(Ic Mb0 (Ic Mb1 (Ic Mb2 In0))), ?_⟩
     refine Jm 3 Z<|Aw.known (d := 66) rfl (J)<|Jz 4 Z<|Jz 5 Z<|Jf 6 Z<|Ja 7 Z<|Ja 8 Z<|Ad<|fy<|?_
     obtain ⟨s, t⟩ := hX H
     subst e f
     refine ⟨(.inl rfl), [(sv b), (.bool false)], ⟨(sv b), _, rfl, rfl, ⟨(.bool false), _, rfl, rfl, rfl⟩⟩, ?_⟩
     exact Re0<|Re0<|Re0<|Sd<|⟨b, rfl, rfl, w⟩
   ·intro W
    have H := f0 (btf W) H
    refine fz (fun j h g => ∃ (ah : Bool), [(0, (sv b)), (4, (Vp n)), (5, (Vp r)), (8, (Vp m)), (70, (.bool ah))] = j ∧ K = h ∧ (.blk m 104 (fx a c)) :: (.blk r 38 (fe p2)) :: (.blk n 108 (fk p1)) :: G = g ∧ pn p0 a p2 p1 ah = some (e, f)) ?_ ?_
    ·refine fa<|EF 0 Z<|El (Vi p2.kind) Z (Rb1 Z)<|Ec Z<|Em Z<|?_
     refine Ee Z ?_ ?_
     ·intro L
      obtain ⟨L, H⟩ := It L H
      refine VF 0 Z<|Vl (.bool p1.send) Z (Rb2 Z)<|Vq Z (gd rfl)<|Et Z<|Em Z<|?_
      refine Ee Z ?_ ?_
      ·intro z
       have z := ir z
       have H := f0 (btf z) H
       exact VF 3 Z<|Vl (.bool p2.ok) Z (Rb1 Z)<|Et Z<|Ea Z<|fb<|Pu2<|Pu2<|Pu2<|Sd<|⟨_, by exact R5, p2.ok, rfl, rfl, rfl, H⟩
      ·intro z
       have z := iq z
       have H := ift z H
       exact Ez Z<|Ez Z<|Ef Z<|Ea Z<|fb<|Pu2<|Pu2<|Pu2<|Sd<|⟨_, by exact R5, false, rfl, rfl, rfl, H⟩
     ·intro L
      obtain ⟨L, H⟩ := If L H
      exact Ez Z<|Ez Z<|Ez Z<|Ef Z<|Em Z<|Ez Z<|Ez Z<|Ef Z<|Ea Z<|fb<|Pu2<|Pu2<|Pu2<|Sd<|⟨_, by exact R5, false, rfl, rfl, rfl, H⟩
    rintro _ _ _ - ⟨ah, rfl, rfl, rfl, H⟩
    unfold pn at H
    refine fm rfl ?_ ?_
    ·intro X
     have H := ift X H
     refine fc ?_
     refine fz (fun j h g => ∃ (ai : Bool), [(0, (sv b)), (4, (Vp n)), (8, (Vp m)), (100, (.bool ai))] = j ∧ K = h ∧ (.blk m 104 (fx a c)) :: (.blk n 108 (fk p1)) :: G = g ∧ om p0 a p1 ai = some (e, f)) ?_ ?_
     ·obtain ⟨R, ad, H⟩ := bnd H
      rcases gQ (!(R)) with i | i <;> revert i
      ·intro p
       have p := ir p
       have H := f0 (btf p) H
       refine fq _ rfl (Ic Mb0 (Ic Mb1 (Ic Mb2 In0)))<|JL 0 5 (fe p2) Z (Rb1 Z)<|?_
       refine Ao 1 Z ?_
       refine Ek Tryz.call111 Z (iP p2 true false R ad _ _ ) ?_
       rintro _ _ _ - ⟨rfl, rfl, rfl⟩
       refine ⟨(Ic Mb0 (Ic Mb1 (Ic Mb2 In0))), ?_⟩
       exact Jq 2 Z (gd rfl)<|Jm 3 Z<|Aw.known (d := 86) rfl (kp (p))<|Jz 4 Z<|Jz 5 Z<|Jz 6 Z<|Jz 7 Z<|Jt 8 Z<|Jm 9 Z<|Jz 10 Z<|Jz 11 Z<|Jz 12 Z<|Jz 13 Z<|Jz 14 Z<|Jz 15 Z<|Jz 16 Z<|Jt 17 Z<|Ad<|Pu2<|Pu1<|Re2<|Sd<|⟨_, by exact R4, true, rfl, rfl, rfl, H⟩
      ·intro p
       have p := iq p
       have H := ift p H
       rcases gQ (dcd ((a.buffer.length : Int) = 0)) with i | i <;> revert i
       ·intro A
        obtain ⟨A, H⟩ := It A H
        refine fq _ rfl (Ic Mb0 (Ic Mb1 (Ic Mb2 In0)))<|JL 0 5 (fe p2) Z (Rb1 Z)<|?_
        refine Ao 1 Z ?_
        refine Ek Tryz.call111 Z (iP p2 true false R ad _ _ ) ?_
        rintro _ _ _ - ⟨rfl, rfl, rfl⟩
        refine ⟨(Ic Mb0 (Ic Mb1 (Ic Mb2 In0))), ?_⟩
        exact Jq 2 Z (gd rfl)<|Jm 3 Z<|Aw.known (d := 86) rfl (kB (p))<|BF 4 1 Z<|Bl 5 (sv c) Z (Rb0 Z)<|Bq 6 Z (ge (T := Ty.u64) o rfl rfl)<|Bc 7 Z<|Jf 8 Z<|Jm 9 Z<|Aw.known (d := 92) rfl (hZ A)<|Jz 10 Z<|Jz 11 Z<|Jz 12 Z<|Jz 13 Z<|Jz 14 Z<|Jz 15 Z<|Jz 16 Z<|Jt 17 Z<|Ad<|Pu2<|Pu1<|Re2<|Sd ⟨_, by exact R4, true, rfl, rfl, rfl, H⟩
       ·intro A
        obtain ⟨A, H⟩ := If A H
        obtain ⟨aB, ay, H⟩ := bnd H
        refine fq _ rfl (Ic Mb0 (Ic Mb1 (Ic Mb2 In0)))<|JL 0 5 (fe p2) Z (Rb1 Z)<|?_
        refine Ao 1 Z ?_
        refine Ek Tryz.call111 Z (iP p2 true false R ad _ _ ) ?_
        rintro _ _ _ - ⟨rfl, rfl, rfl⟩
        refine ⟨(Ic Mb0 (Ic Mb1 (Ic Mb2 In0))), ?_⟩
        refine Jq 2 Z (gd rfl)<|Jm 3 Z<|Aw.known (d := 86) rfl (kB (p))<|BF 4 1 Z<|Bl 5 (sv c) Z (Rb0 Z)<|Bq 6 Z (ge (T := Ty.u64) o rfl rfl)<|Bc 7 Z<|Jf 8 Z<|Jm 9 Z<|Aw.known (d := 92) rfl (io A)<|BF 10 1 Z<|Bl 11 (sv c) Z (Rb0 Z)<|?_
        obtain ⟨_, rfl, aH⟩ := Slr.at o ay
        exact Bq 12 Z (Qi (T := Ty.u64) o ay Z)<|Bl 13 (.int .u64 aB) Z (Rdc.k aH rfl)<|BF 14 2 Z<|Bl 15 (.int .u64 p2.value) Z (Rb1 Z)<|Bc 16 Z<|Jf 17 Z<|Ad<|Pu2<|Pu1<|Re2<|Sd<|⟨_, by exact R4, (!(dcd (aB = p2.value))), rfl, rfl, rfl, H⟩
     rintro _ _ _ - ⟨ai, rfl, rfl, rfl, H⟩
     unfold om at H
     refine fm rfl ?_ ?_
     ·intro Y
      have H := ift Y H
      refine fc<|fa<|Ea Z<|Ea Z<|fb<|fy<|?_
      obtain ⟨s, t⟩ := hX H
      subst e f
      refine ⟨(.inl rfl), [(sv fA), (.bool false)], ⟨(sv fA), _, rfl, rfl, ⟨(.bool false), _, rfl, rfl, rfl⟩⟩, ?_⟩
      exact Re0<|Re0<|Sd<|⟨fA, rfl, rfl, (Slr.nil fG _)⟩
     ·intro Y
      have H := f0 (btf Y) H
      refine ft<|fc<|fa<|EF 1 Z<|El (sv c) Z (Rb0 Z)<|?_
      obtain ⟨aq, az, H⟩ := bnd H
      have aV := Slr.cutL o az
      refine Eq Z (lw (T := Ty.u64) o az rfl rfl rfl rfl rfl)<|EF 1 Z<|?_
      refine ff rfl (So [(sv (jo c 1 ((1 : Int).toNat) a.buffer.length))] (fx (fL.mk a.capacity aq a.closed) (jo c 1 ((1 : Int).toNat) a.buffer.length)) Z .here Z ?_)
      refine fb<|fc<|fa<|Em Z<|EF 1 Z<|El (Vi p1.channel) Z (Rb1 Z)<|EL 3 (fx (fL.mk a.capacity aq a.closed) (jo c 1 ((1 : Int).toNat) a.buffer.length)) Z (Rb0 Z)<|?_
      obtain ⟨a5, a1, H⟩ := bnd H
      refine ff rfl (Ek Tryz.call112 Z (wq p0 b p1.channel (fL.mk a.capacity aq a.closed) (jo c 1 ((1 : Int).toNat) a.buffer.length) a5 a1 _ _ w aV) ?_)
      rintro _ _ _ - ⟨ao, bm, rfl, rfl, rfl, aW⟩
      refine Ea Z<|Ea Z<|fb<|fy<|?_
      obtain ⟨s, t⟩ := hX H
      subst e f
      refine ⟨(.inl rfl), [(sv ao), (.bool true)], ⟨(sv ao), _, rfl, rfl, ⟨(.bool true), _, rfl, rfl, rfl⟩⟩, ?_⟩
      refine Shift.settle (T := fG) .here aW rfl ?_
      intro bd bj aX
      exact Re0<|Re0<|Re0<|Sd<|⟨ao, rfl, rfl, aX⟩
    ·intro X
     have H := f0 (btf X) H
     refine fz (fun j h g => ∃ (aj : Bool), [(0, (sv b)), (5, (Vp r)), (8, (Vp m)), (110, (.bool aj))] = j ∧ K = h ∧ (.blk m 104 (fx a c)) :: (.blk r 38 (fe p2)) :: G = g ∧ sf p0 a p2 aj = some (e, f)) ?_ ?_
     ·refine fa<|EF 0 Z<|El (Vi p2.kind) Z (Rb1 Z)<|Ec Z<|Em Z<|?_
      refine Ee Z ?_ ?_
      ·intro M
       obtain ⟨M, H⟩ := It M H
       exact VF 0 Z<|Vl (.bool p1.send) Z (Rb2 Z)<|Vq Z (gd rfl)<|Et Z<|Ea Z<|fb<|Pu1<|Pu1<|Re2<|Sd<|⟨_, by exact R4, (!(p1.send)), rfl, rfl, rfl, H⟩
      ·intro M
       obtain ⟨M, H⟩ := If M H
       exact Ez Z<|Ez Z<|Ez Z<|Ef Z<|Ea Z<|fb<|Pu1<|Pu1<|Re2<|Sd<|⟨_, by exact R4, false, rfl, rfl, rfl, H⟩
     rintro _ _ _ - ⟨aj, rfl, rfl, rfl, H⟩
     unfold sf at H
     refine fm rfl ?_ ?_
     ·intro aa
      have H := ift aa H
      refine fz (fun j h g => ∃ (O : Bool), [(6, (sv b)), (7, (.bool O))] = j ∧ K = h ∧ G = g ∧ se p0 O = some (e, f)) ?_ ?_
      ·obtain ⟨P, Q, H⟩ := bnd H
       rcases gQ P with i | i <;> revert i
       ·intro B
        have H := ift B H
        rcases gQ (dcd (p2.value = 0)) with i | i <;> revert i
        ·intro u
         obtain ⟨u, H⟩ := It u H
         rcases gQ a.closed with i | i <;> revert i
         ·intro N
          have H := ift N H
          refine fq _ rfl (Ic Mb0 (Ic Mb1 In0))<|Jm 0 Z<|JL 1 5 (fe p2) Z (Rb1 Z)<|?_
          refine Ao 2 Z ?_
          refine Ek Tryz.call111 Z (iP p2 true false P Q _ _ ) ?_
          rintro _ _ _ - ⟨rfl, rfl, rfl⟩
          refine ⟨(Ic Mb0 (Ic Mb1 In0)), ?_⟩
          refine Jm 3 Z<|Aw.known (d := 122) rfl (B)<|BF 4 2 Z<|Bl 5 (.int .u64 p2.value) Z (Rb1 Z)<|Bc 6 Z<|Jt 7 Z<|Jm 8 Z<|Aw.known (d := 127) rfl (hZ u)<|BF 9 2 Z<|Bl 10 (.bool a.closed) Z (Rb0 Z)<|Jt 11 Z<|Jm 12 Z<|Aw.known (d := 131) rfl (N)<|BF 13 1 Z<|Bl 14 (sv c) Z (Rb0 Z)<|Bq 15 Z (ge (T := Ty.u64) o rfl rfl)<|Bc 16 Z<|Jt 17 Z<|Ja 18 Z<|Ja 19 Z<|Ad<|Re0<|?_
          exact Re0<|Sd<|⟨_, by exact R2, (dcd ((a.buffer.length : Int) = 0)), rfl, rfl, rfl, H⟩
         ·intro N
          have H := f0 (btf N) H
          refine fq _ rfl (Ic Mb0 (Ic Mb1 In0))<|Jm 0 Z<|JL 1 5 (fe p2) Z (Rb1 Z)<|?_
          refine Ao 2 Z ?_
          refine Ek Tryz.call111 Z (iP p2 true false P Q _ _ ) ?_
          rintro _ _ _ - ⟨rfl, rfl, rfl⟩
          refine ⟨(Ic Mb0 (Ic Mb1 In0)), ?_⟩
          refine Jm 3 Z<|Aw.known (d := 122) rfl (B)<|BF 4 2 Z<|Bl 5 (.int .u64 p2.value) Z (Rb1 Z)<|Bc 6 Z<|Jt 7 Z<|Jm 8 Z<|Aw.known (d := 127) rfl (hZ u)<|BF 9 2 Z<|Bl 10 (.bool a.closed) Z (Rb0 Z)<|Jt 11 Z<|Jm 12 Z<|Aw.known (d := 131) rfl (N)<|Jz 13 Z<|Jz 14 Z<|Jz 15 Z<|Jz 16 Z<|Jf 17 Z<|Ja 18 Z<|Ja 19 Z<|Ad<|Re0<|?_
          exact Re0<|Sd<|⟨_, by exact R2, false, rfl, rfl, rfl, H⟩
        ·intro u
         obtain ⟨u, H⟩ := If u H
         refine fq _ rfl (Ic Mb0 (Ic Mb1 In0))<|Jm 0 Z<|JL 1 5 (fe p2) Z (Rb1 Z)<|?_
         refine Ao 2 Z ?_
         refine Ek Tryz.call111 Z (iP p2 true false P Q _ _ ) ?_
         rintro _ _ _ - ⟨rfl, rfl, rfl⟩
         refine ⟨(Ic Mb0 (Ic Mb1 In0)), ?_⟩
         exact Jm 3 Z<|Aw.known (d := 122) rfl (B)<|BF 4 2 Z<|Bl 5 (.int .u64 p2.value) Z (Rb1 Z)<|Bc 6 Z<|Jt 7 Z<|Jm 8 Z<|Aw.known (d := 127) rfl (io u)<|Jz 9 Z<|Jz 10 Z<|Jf 11 Z<|Jm 12 Z<|Jz 13 Z<|Jz 14 Z<|Jz 15 Z<|Jz 16 Z<|Jf 17 Z<|Ja 18 Z<|Ja 19 Z<|Ad<|Re0<|Re0<|Sd ⟨_, by exact R2, false, rfl, rfl, rfl, H⟩
       ·intro B
        have H := f0 (btf B) H
        refine fq _ rfl (Ic Mb0 (Ic Mb1 In0))<|Jm 0 Z<|JL 1 5 (fe p2) Z (Rb1 Z)<|?_
        refine Ao 2 Z ?_
        refine Ek Tryz.call111 Z (iP p2 true false P Q _ _ ) ?_
        rintro _ _ _ - ⟨rfl, rfl, rfl⟩
        refine ⟨(Ic Mb0 (Ic Mb1 In0)), ?_⟩
        exact Jm 3 Z<|Aw.known (d := 122) rfl (B)<|Jz 4 Z<|Jz 5 Z<|Jz 6 Z<|Jf 7 Z<|Jm 8 Z<|Jz 9 Z<|Jz 10 Z<|Jf 11 Z<|Jm 12 Z<|Jz 13 Z<|Jz 14 Z<|Jz 15 Z<|Jz 16 Z<|Jf 17 Z<|Ja 18 Z<|Ja 19 Z<|Ad<|Re0<|Re0<|Sd<|⟨_, by exact R2, false, rfl, rfl, rfl, H⟩
      rintro _ _ _ - ⟨O, rfl, rfl, rfl, H⟩
      unfold se at H
      refine fy ?_
      obtain ⟨s, t⟩ := hX H
      subst e f
      refine ⟨(.inl rfl), [(sv b), (.bool O)], ⟨(sv b), _, rfl, rfl, ⟨(.bool O), _, rfl, rfl, rfl⟩⟩, ?_⟩
      exact Sd ⟨b, rfl, rfl, w⟩
     ·intro aa
      have H := f0 (btf aa) H
      refine ft<|fc<|fa<|Ea Z<|Ea Z<|fb<|fy<|?_
      obtain ⟨s, t⟩ := hX H
      subst e f
      refine ⟨(.inl rfl), [(sv fA), (.bool false)], ⟨(sv fA), _, rfl, rfl, ⟨(.bool false), _, rfl, rfl, rfl⟩⟩, ?_⟩
      exact Re0<|Re0<|Sd<|⟨fA, rfl, rfl, (Slr.nil fG _)⟩
theorem B0 (p0 : ad0) (g : SV) (p1 : Op) (e : SV) (f : SV) (a : Bool) (H : ru p0 p1 = some a) (K : Kp) (G : List Ent) (u : Slr fG K (sv g) p0) (w : Slr fV K (sv e) p1.cases) (x : Slr Ty.i64 K (sv f) p1.draws) :
  Fc Tryz.prog 113 #[(sv g), (.agg (fj p1 e f).toArray)] K (G) (fun v h b => v = (.bool a) ∧ G = b) := by
 refine fO Tryz.func113 rfl Tryz.ntmps113 Tryz.results113 rfl ?_
 unfold ru at H
 refine fc<|fa<|?_
 refine ff rfl (fU (cs := (fj p1 e f)) rfl rfl rfl (fun E => ?_))
 refine Ea Z<|fb<|fc<|fa<|EL 7 (fj p1 e f) Z (Rb0 Z)<|?_
 obtain ⟨o, A, H⟩ := bnd H
 refine ff rfl (Ek Tryz.call44 Z (kY p1 e f o A _ _ w x) ?_)
 rintro _ p _ r ⟨B, rfl, rfl, l⟩
 refine Ea Z<|fb<|?_
 refine fz (fun i h b => [] = i ∧ G = b ∧ vy = some a) ?_ ?_
 ·refine fc<|fa<|Ea Z<|fb<|fB<|?_
  refine f8 (fun n101 i h b => ∃ (d : Int), [(0, (sv g)), (5, (sv B)), (6, (Vi d))] = i ∧ p = h ∧ G = b ∧ lp1 (vz p0 o) n101 d = some a) BIG ?_ ?_
  ·exact Re0<|Sd<|⟨_, by exact R3, 0, rfl, rfl, rfl, H⟩
  rintro n101 _ _ _ - ⟨d, rfl, rfl, rfl, H⟩
  obtain ⟨J, I, rfl, t, H⟩ := nr H
  unfold vz at H
  refine fc<|fc<|fa<|Em Z<|Em Z<|Eq Z (ge (T := fV) l rfl rfl)<|Ec Z<|fb<|?_
  refine fm rfl ?_ ?_
  ·intro c
   obtain ⟨c, H⟩ := It c H
   refine ft<|fc<|fB<|fc<|fa<|Em Z<|Em Z<|Em Z<|?_
   obtain ⟨n, m, H⟩ := bnd H
   obtain ⟨_, rfl, s⟩ := Slr.at l m
   refine Eq Z (Qi (T := fV) l m Z)<|EL 3 (fk n) Z (Rdc.k s rfl)<|?_
   obtain ⟨C, z, H⟩ := bnd H
   have y := u.mono r
   refine ff rfl (Ek Tryz.call79 Z (zm p0 g n C z _ _ y) ?_)
   rintro _ _ _ - ⟨rfl, rfl, rfl⟩
   refine fb ?_
   refine fm rfl ?_ ?_
   ·intro j
    have H := ift j H
    refine fc<|fa<|Ea Z<|fb<|fy<|?_
    obtain q := gm H
    subst a
    refine ⟨(.inl rfl), [(.bool false)], ⟨(.bool false), _, rfl, rfl, rfl⟩, ?_⟩
    exact Sd ⟨rfl, rfl⟩
   ·intro j
    have H := f0 (btf j) H
    exact ft<|fa<|Em Z<|Er (wI (d + 1)) Z<|Ea Z<|fb<|Sd<|⟨_, by exact R3, _, Nat.lt_succ_self _, (wI (d + 1)), rfl, rfl, rfl, (t ▸ H)⟩
  ·intro c
   obtain ⟨c, H⟩ := If c H
   exact ga<|Sd<|⟨[], trivial, rfl, rfl, H⟩
 rintro _ D _ F ⟨rfl, rfl, H⟩
 unfold vy at H
 refine fc<|fa<|Ea Z<|fb<|fy<|?_
 obtain q := gm H
 subst a
 refine ⟨(.inl rfl), [(.bool true)], ⟨(.bool true), _, rfl, rfl, rfl⟩, ?_⟩
 exact Sd ⟨rfl, rfl⟩
end Go.Hx
namespace Go.Hx
open Go Go.Proofs
set_option maxRecDepth 10000
set_option maxHeartbeats 1000000
theorem CC (p0 : ad0) (a : SV) (p1 : Op) (j : SV) (l : SV) (p2 : Result) (e : ad0) (f : Bool) (H : vA p0 p1 p2 = some (e, f)) (K : Kp) (G : List Ent) (c : Slr fG K (sv a) p0) (aq : Slr fV K (sv j) p1.cases) (ar : Slr Ty.i64 K (sv l) p1.draws) :
  Fc Tryz.prog 85 #[(sv a), (.agg (fj p1 j l).toArray), (.agg (fe p2).toArray)] K (G) (fun v h g => ∃ (aN : SV), v = (.tuple #[(sv aN), (.bool f)]) ∧ G = g ∧ Slr fG h (sv aN) e) := by
 refine fO Tryz.func85 rfl Tryz.ntmps85 Tryz.results85 rfl ?_
 unfold vA at H
 refine fc<|fa<|?_
 refine ff rfl (fU (cs := (fj p1 j l)) rfl rfl rfl (fun s => ?_))
 refine ff rfl (fU (cs := (fe p2)) rfl rfl rfl (fun D => ?_))
 refine Ea Z<|Ea Z<|fb<|?_
 refine fz (fun i h g => ∃ (ab : Bool), [(0, (sv a)), (4, (Vp s)), (5, (Vp D)), (8, (.bool ab))] = i ∧ K = h ∧ (.blk D 38 (fe p2)) :: (.blk s 51 (fj p1 j l)) :: G = g ∧ sn p0 p2 p1 ab = some (e, f)) ?_ ?_
 ·refine fa<|EF 0 Z<|El (Vi p1.kind) Z (Rb1 Z)<|Ec Z<|Em Z<|?_
  refine Ee Z ?_ ?_
  ·intro F
   obtain ⟨F, H⟩ := It F H
   exact Ez Z<|Ez Z<|Ez Z<|Et Z<|Em Z<|Ez Z<|Ez Z<|Ez Z<|Et Z<|Ea Z<|fb<|Pu1<|Pu1<|Sd<|⟨_, by exact R4, true, rfl, rfl, rfl, H⟩
  ·intro F
   obtain ⟨F, H⟩ := If F H
   refine VF 0 Z<|Vl (Vi p1.kind) Z (Rb1 Z)<|Vc Z<|Ef Z<|Em Z<|?_
   refine Ee Z ?_ ?_
   ·intro I
    obtain ⟨I, H⟩ := It I H
    exact Ez Z<|Ez Z<|Ez Z<|Et Z<|Ea Z<|fb<|Pu1<|Pu1<|Sd<|⟨_, by exact R4, true, rfl, rfl, rfl, H⟩
   ·intro I
    obtain ⟨I, H⟩ := If I H
    exact VF 0 Z<|Vl (Vi p1.kind) Z (Rb1 Z)<|Vc Z<|Ef Z<|Ea Z<|fb<|Pu1<|Pu1<|Sd<|⟨_, by exact R4, (dcd (p1.kind = 4)), rfl, rfl, rfl, H⟩
 rintro _ _ _ - ⟨ab, rfl, rfl, rfl, H⟩
 unfold sn at H
 refine fc<|fc<|fa<|EF 0 Z<|El (Vi p2.kind) Z (Rb0 Z)<|fb<|fB<|?_
 refine fz (fun i h g => ∃ (av : Bool), [(0, (sv a)), (4, (Vp s)), (5, (Vp D)), (8, (.bool ab)), (29, (Vi p2.kind)), (30, (.bool av))] = i ∧ K = h ∧ (.blk D 38 (fe p2)) :: (.blk s 51 (fj p1 j l)) :: G = g ∧ oq p0 ab p2 p1 av = some (e, f)) ?_ ?_
 ·refine fc<|fa<|Ec Z<|Ea Z<|fb<|?_
  refine fm rfl ?_ ?_
  ·intro J
   obtain ⟨J, H⟩ := It J H
   exact ft<|Pu1<|Pu1<|Sd<|⟨_, by exact R6, (dcd (p2.kind = 1)), rfl, rfl, rfl, H⟩
  ·intro J
   obtain ⟨J, H⟩ := If J H
   exact fa<|Ec Z<|Ea Z<|fb<|Pu1<|Pu1<|Sd<|⟨_, by exact R6, (dcd (p2.kind = 2)), rfl, rfl, rfl, H⟩
 rintro _ _ _ - ⟨av, rfl, rfl, rfl, H⟩
 unfold oq at H
 refine fm rfl ?_ ?_
 ·intro ak
  have H := ift ak H
  refine fc<|fa<|EL 7 (fj p1 j l) Z (Rb1 Z)<|EL 5 (fe p2) Z (Rb0 Z)<|?_
  obtain ⟨ah, bn, bb, H⟩ := ix H
  refine ff rfl (Ek Tryz.call109 Z (pV p1 j l p2 ah bn bb _ _ aq ar) ?_)
  rintro _ _ _ - ⟨rfl, rfl, rfl⟩
  refine Em Z<|Ex Z<|Ex Z<|?_
  refine ff rfl (fC (cs := (fk (Case.mk false 0 0))) rfl rfl rfl rfl (fun bD => ?_))
  refine ff rfl (Sa (fk ah) Z .here Z ?_)
  refine Ea Z<|fb<|fc<|fc<|fa<|Em Z<|Eq Z (gd rfl)<|fb<|?_
  refine fm rfl ?_ ?_
  ·intro x
   have x := ir x
   have H := f0 (btf x) H
   refine fc<|fa<|Ea Z<|Ea Z<|fb<|fy<|?_
   obtain ⟨n, o⟩ := hX H
   subst e f
   refine ⟨(.inl rfl), [(sv fA), (.bool false)], ⟨(sv fA), _, rfl, rfl, ⟨(.bool false), _, rfl, rfl, rfl⟩⟩, ?_⟩
   exact Re0<|Re0<|Re0<|Sd<|⟨fA, rfl, rfl, (Slr.nil fG _)⟩
  ·intro x
   have x := iq x
   have H := ift x H
   refine ft<|fc<|fa<|Em Z<|EL 3 (fk ah) Z (Rb0 Z)<|EL 5 (fe p2) Z (Rb1 Z)<|?_
   obtain ⟨bo, aA, bc, H⟩ := ix H
   refine ff rfl (Ek Tryz.call110 Z (zq p0 a ah p2 bo aA bc _ _ c) ?_)
   rintro _ bx _ bG ⟨ax, rfl, rfl, a4⟩
   refine Ex Z<|Ex Z<|Ea Z<|Ea Z<|fb<|fy<|?_
   obtain ⟨n, o⟩ := hX H
   subst e f
   refine ⟨(.inl rfl), [(sv ax), (.bool aA)], ⟨(sv ax), _, rfl, rfl, ⟨(.bool aA), _, rfl, rfl, rfl⟩⟩, ?_⟩
   exact Re0<|Re0<|Re0<|Sd<|⟨ax, rfl, rfl, a4⟩
 ·intro ak
  have H := f0 (btf ak) H
  refine fc<|fa<|Ec Z<|Ea Z<|fb<|?_
  refine fm rfl ?_ ?_
  ·intro L
   obtain ⟨L, H⟩ := It L H
   refine fc<|fc<|fa<|EF 0 Z<|El (Vi p1.kind) Z (Rb1 Z)<|Ec Z<|fb<|?_
   refine fm rfl ?_ ?_
   ·intro M
    obtain ⟨M, H⟩ := It M H
    refine fz (fun i h g => ∃ (ac : Bool), [(6, (sv a)), (7, (.bool ac))] = i ∧ K = h ∧ G = g ∧ sj p0 ac = some (e, f)) ?_ ?_
    ·rcases gQ (dcd (p2.case_ = (-1))) with b | b <;> revert b
     ·intro p
      obtain ⟨p, H⟩ := It p H
      obtain ⟨ai, au, H⟩ := bnd H
      rcases gQ ai with b | b <;> revert b
      ·intro E
       have H := ift E H
       obtain ⟨aB, aF, H⟩ := bnd H
       rcases gQ (!(aB)) with b | b <;> revert b
       ·intro q
        have q := ir q
        have H := f0 (btf q) H
        refine fq _ rfl (Ic Mb0 (Ic Mb1 In0))<|Jm 0 Z<|JF 1 1 Z<|Jl 2 (Vi p2.case_) Z (Rb0 Z)<|Jc 3 Z<|Jm 4 Z<|Aw.known (d := 56) rfl (hZ p)<|BL 5 5 (fe p2) Z (Rb0 Z)<|?_
        refine gx 6 (by kernel_rfl) (jK rfl rfl rfl rfl rfl ?_)
        refine Ek Tryz.call111 Z (iP p2 false false ai au _ _ ) ?_
        rintro _ _ _ - ⟨rfl, rfl, rfl⟩
        refine ⟨(Ic Mb0 (Ic Mb1 In0)), ?_⟩
        refine Jt 7 Z<|Jm 8 Z<|Aw.known (d := 60) rfl (E)<|Bm 9 Z<|BF 10 2 Z<|Bl 11 (Vi p1.channel) Z (Rb1 Z)<|?_
        refine gx 12 (by kernel_rfl) (jK rfl rfl rfl rfl rfl ?_)
        refine Ek Tryz.call107 Z (lB p0 a p1.channel aB aF _ _ c) ?_
        rintro _ _ _ - ⟨rfl, rfl, rfl⟩
        refine ⟨(Ic Mb0 (Ic Mb1 In0)), ?_⟩
        exact Bq 13 Z (gd rfl)<|Bm 14 Z<|Aw.known (d := 66) rfl (kp (q))<|Jz 15 Z<|Jz 16 Z<|Jz 17 Z<|Jz 18 Z<|Jz 19 Z<|Jz 20 Z<|Bt 21 Z<|Jt 22 Z<|Ja 23 Z<|Ja 24 Z<|Ad<|Re0<|Re0<|Sd<|⟨_, by exact R2, true, rfl, rfl, rfl, H⟩
       ·intro q
        have q := iq q
        have H := ift q H
        obtain ⟨aO, aG, H⟩ := bnd H
        refine fq _ rfl (Ic Mb0 (Ic Mb1 In0))<|Jm 0 Z<|JF 1 1 Z<|Jl 2 (Vi p2.case_) Z (Rb0 Z)<|Jc 3 Z<|Jm 4 Z<|Aw.known (d := 56) rfl (hZ p)<|BL 5 5 (fe p2) Z (Rb0 Z)<|?_
        refine gx 6 (by kernel_rfl) (jK rfl rfl rfl rfl rfl ?_)
        refine Ek Tryz.call111 Z (iP p2 false false ai au _ _ ) ?_
        rintro _ _ _ - ⟨rfl, rfl, rfl⟩
        refine ⟨(Ic Mb0 (Ic Mb1 In0)), ?_⟩
        refine Jt 7 Z<|Jm 8 Z<|Aw.known (d := 60) rfl (E)<|Bm 9 Z<|BF 10 2 Z<|Bl 11 (Vi p1.channel) Z (Rb1 Z)<|?_
        refine gx 12 (by kernel_rfl) (jK rfl rfl rfl rfl rfl ?_)
        refine Ek Tryz.call107 Z (lB p0 a p1.channel aB aF _ _ c) ?_
        rintro _ _ _ - ⟨rfl, rfl, rfl⟩
        refine ⟨(Ic Mb0 (Ic Mb1 In0)), ?_⟩
        refine Bq 13 Z (gd rfl)<|Bm 14 Z<|Aw.known (d := 66) rfl (kB (q))<|Bm 15 Z<|BF 16 2 Z<|Bl 17 (Vi p1.channel) Z (Rb1 Z)<|?_
        obtain ⟨bN, aZ, aU⟩ := Slr.at c aG
        obtain ⟨bT, rfl, bK⟩ := aZ
        exact Bq 18 Z (Qi (T := fG) c aG Z)<|BF 19 2 Z<|Bl 20 (.bool aO.closed) Z (Rdc.k aU rfl)<|Bf 21 Z<|Jt 22 Z<|Ja 23 Z<|Ja 24 Z<|Ad<|Re0<|Re0<|Sd<|⟨_, by exact R2, aO.closed, rfl, rfl, rfl, H⟩
      ·intro E
       have H := f0 (btf E) H
       refine fq _ rfl (Ic Mb0 (Ic Mb1 In0))<|Jm 0 Z<|JF 1 1 Z<|Jl 2 (Vi p2.case_) Z (Rb0 Z)<|Jc 3 Z<|Jm 4 Z<|Aw.known (d := 56) rfl (hZ p)<|BL 5 5 (fe p2) Z (Rb0 Z)<|?_
       refine gx 6 (by kernel_rfl) (jK rfl rfl rfl rfl rfl ?_)
       refine Ek Tryz.call111 Z (iP p2 false false ai au _ _ ) ?_
       rintro _ _ _ - ⟨rfl, rfl, rfl⟩
       refine ⟨(Ic Mb0 (Ic Mb1 In0)), ?_⟩
       exact Jt 7 Z<|Jm 8 Z<|Aw.known (d := 60) rfl (E)<|Jz 9 Z<|Jz 10 Z<|Jz 11 Z<|Jz 12 Z<|Jz 13 Z<|Jz 14 Z<|gI 15 rfl (by kernel_rfl) (by kernel_rfl) (by kernel_rfl) rfl rfl rfl rfl rfl<|gI 16 rfl (by kernel_rfl) (by kernel_rfl) (by kernel_rfl) rfl rfl rfl rfl rfl<|gI 17 rfl (by kernel_rfl) (by kernel_rfl) (by kernel_rfl) rfl rfl rfl rfl rfl<|gI 18 rfl (by kernel_rfl) (by kernel_rfl) (by kernel_rfl) rfl rfl rfl rfl rfl<|gI 19 rfl (by kernel_rfl) (by kernel_rfl) (by kernel_rfl) rfl rfl rfl rfl rfl<|gI 20 rfl (by kernel_rfl) (by kernel_rfl) (by kernel_rfl) rfl rfl rfl rfl rfl<|Jz 21 Z<|Jf 22 Z<|Ja 23 Z<|Ja 24 Z<|Ad<|Re0<|Re0<|Sd ⟨_, by exact R2, false, rfl, rfl, rfl, H⟩
     ·intro p
      obtain ⟨p, H⟩ := If p H
      refine fq _ rfl (Ic Mb0 (Ic Mb1 In0))<|Jm 0 Z<|JF 1 1 Z<|Jl 2 (Vi p2.case_) Z (Rb0 Z)<|Jc 3 Z<|Jm 4 Z<|Aw.known (d := 56) rfl (io p)<|Jz 5 Z<|Jz 6 Z<|Jf 7 Z<|Jm 8 Z<|Jz 9 Z<|Jz 10 Z<|Jz 11 Z<|Jz 12 Z<|Jz 13 Z<|Jz 14 Z<|gI 15 rfl (by kernel_rfl) (by kernel_rfl) (by kernel_rfl) rfl rfl rfl rfl rfl<|gI 16 rfl (by kernel_rfl) (by kernel_rfl) (by kernel_rfl) rfl rfl rfl rfl rfl<|gI 17 rfl (by kernel_rfl) (by kernel_rfl) (by kernel_rfl) rfl rfl rfl rfl rfl<|gI 18 rfl (by kernel_rfl) (by kernel_rfl) (by kernel_rfl) rfl rfl rfl rfl rfl<|gI 19 rfl (by kernel_rfl) (by kernel_rfl) (by kernel_rfl) rfl rfl rfl rfl rfl<|?_
      exact gI 20 rfl (by kernel_rfl) (by kernel_rfl) (by kernel_rfl) rfl rfl rfl rfl rfl<|Jz 21 Z<|Jf 22 Z<|Ja 23 Z<|Ja 24 Z<|Ad<|Re0<|Re0<|Sd<|⟨_, by exact R2, false, rfl, rfl, rfl, H⟩
    rintro _ _ _ - ⟨ac, rfl, rfl, rfl, H⟩
    unfold sj at H
    refine fy ?_
    obtain ⟨n, o⟩ := hX H
    subst e f
    refine ⟨(.inl rfl), [(sv a), (.bool ac)], ⟨(sv a), _, rfl, rfl, ⟨(.bool ac), _, rfl, rfl, rfl⟩⟩, ?_⟩
    exact Sd ⟨a, rfl, rfl, c⟩
   ·intro M
    obtain ⟨M, H⟩ := If M H
    refine ft<|fc<|fa<|EL 7 (fj p1 j l) Z (Rb1 Z)<|EL 5 (fe p2) Z (Rb0 Z)<|?_
    obtain ⟨aj, bp, bd, H⟩ := ix H
    refine ff rfl (Ek Tryz.call109 Z (pV p1 j l p2 aj bp bd _ _ aq ar) ?_)
    rintro _ _ _ - ⟨rfl, rfl, rfl⟩
    refine Em Z<|Ex Z<|Ex Z<|?_
    refine ff rfl (fC (cs := (fk (Case.mk false 0 0))) rfl rfl rfl rfl (fun bE => ?_))
    refine ff rfl (Sa (fk aj) Z .here Z ?_)
    refine Ea Z<|fb<|fc<|fc<|fa<|Em Z<|Eq Z (gd rfl)<|fb<|?_
    refine fm rfl ?_ ?_
    ·intro y
     have y := ir y
     have H := f0 (btf y) H
     refine fc<|fa<|Ea Z<|Ea Z<|fb<|fy<|?_
     obtain ⟨n, o⟩ := hX H
     subst e f
     refine ⟨(.inl rfl), [(sv fA), (.bool false)], ⟨(sv fA), _, rfl, rfl, ⟨(.bool false), _, rfl, rfl, rfl⟩⟩, ?_⟩
     exact Re0<|Re0<|Re0<|Sd<|⟨fA, rfl, rfl, (Slr.nil fG _)⟩
    ·intro y
     have y := iq y
     have H := ift y H
     refine ft<|fc<|fa<|Em Z<|EL 3 (fk aj) Z (Rb0 Z)<|EL 5 (fe p2) Z (Rb1 Z)<|?_
     obtain ⟨bq, aC, be, H⟩ := ix H
     refine ff rfl (Ek Tryz.call110 Z (zq p0 a aj p2 bq aC be _ _ c) ?_)
     rintro _ bz _ bH ⟨ay, rfl, rfl, a5⟩
     refine Ex Z<|Ex Z<|Ea Z<|Ea Z<|fb<|fy<|?_
     obtain ⟨n, o⟩ := hX H
     subst e f
     refine ⟨(.inl rfl), [(sv ay), (.bool aC)], ⟨(sv ay), _, rfl, rfl, ⟨(.bool aC), _, rfl, rfl, rfl⟩⟩, ?_⟩
     exact Re0<|Re0<|Re0<|Sd<|⟨ay, rfl, rfl, a5⟩
  ·intro L
   obtain ⟨L, H⟩ := If L H
   refine fc<|fa<|Ec Z<|Ea Z<|fb<|?_
   refine fm rfl ?_ ?_
   ·intro N
    obtain ⟨N, H⟩ := It N H
    refine fc ?_
    refine fz (fun i h g => ∃ (aw : Bool), [(0, (sv a)), (4, (Vp s)), (118, (.bool aw))] = i ∧ K = h ∧ (.blk s 51 (fj p1 j l)) :: G = g ∧ po p0 p1 aw = some (e, f)) ?_ ?_
    ·refine fa<|EF 0 Z<|El (Vi p1.kind) Z (Rb1 Z)<|Ec Z<|Em Z<|?_
     refine Ee Z ?_ ?_
     ·intro z
      have z := ky (ir (z))
      have H := f0 z H
      refine Ez Z<|Ez Z<|Ez Z<|Et Z<|Em Z<|Ez Z<|Ez Z<|Ez Z<|Et Z<|Em Z<|Ez Z<|Ez Z<|Ez Z<|Ez Z<|Ez Z<|Et Z<|Em Z<|Ez Z<|Ez Z<|Ez Z<|Ez Z<|Ez Z<|?_
      exact Ez Z<|Et Z<|fb<|Pu1<|Re1<|Sd<|⟨_, by exact R3, true, rfl, rfl, rfl, H⟩
     ·intro z
      have z := kz (iq (z))
      have H := ift z H
      refine VF 1 Z<|Vl (Vi p2.case_) Z (Rb0 Z)<|Vc Z<|Ef Z<|Em Z<|?_
      refine Ee Z ?_ ?_
      ·intro A
       have A := ky (ir (A))
       have H := f0 A H
       exact Ez Z<|Ez Z<|Ez Z<|Et Z<|Em Z<|Ez Z<|Ez Z<|Ez Z<|Ez Z<|Ez Z<|Et Z<|Em Z<|Ez Z<|Ez Z<|Ez Z<|Ez Z<|Ez Z<|Ez Z<|Et Z<|fb<|Pu1<|Re1<|Sd ⟨_, by exact R3, true, rfl, rfl, rfl, H⟩
      ·intro A
       have A := kz (iq (A))
       have H := ift A H
       refine VL 5 (fe p2) Z (Rb0 Z) ?_
       obtain ⟨br, bf, H⟩ := bnd H
       refine hY rfl rfl rfl rfl (Ek Tryz.call111 Z (iP p2 false false br bf _ _ ) ?_)
       rintro _ _ _ - ⟨rfl, rfl, rfl⟩
       refine Vq Z (gd rfl)<|Ef Z<|Em Z<|?_
       refine Ee Z ?_ ?_
       ·intro B
        have B := ir B
        have H := f0 (btf B) H
        exact Ez Z<|Ez Z<|Ez Z<|Ez Z<|Ez Z<|Et Z<|Em Z<|Ez Z<|Ez Z<|Ez Z<|Ez Z<|Ez Z<|Ez Z<|Et Z<|fb<|Pu1<|Re1<|Sd<|⟨_, by exact R3, true, rfl, rfl, rfl, H⟩
       ·intro B
        have B := iq B
        have H := ift B H
        refine Vm Z<|VF 2 Z<|Vl (Vi p1.channel) Z (Rb1 Z)<|?_
        obtain ⟨bs, bg, H⟩ := bnd H
        refine hY rfl rfl rfl rfl (Ek Tryz.call107 Z (lB p0 a p1.channel bs bg _ _ c) ?_)
        rintro _ _ _ - ⟨rfl, rfl, rfl⟩
        refine Vq Z (gd rfl)<|Ef Z<|Em Z<|?_
        refine Ee Z ?_ ?_
        ·intro C
         have C := ir C
         have H := f0 (btf C) H
         exact Ez Z<|Ez Z<|Ez Z<|Ez Z<|Ez Z<|Ez Z<|Et Z<|fb<|Pu1<|Re1<|Sd<|⟨_, by exact R3, true, rfl, rfl, rfl, H⟩
        ·intro C
         have C := iq C
         have H := ift C H
         refine Vm Z<|VF 2 Z<|Vl (Vi p1.channel) Z (Rb1 Z)<|?_
         obtain ⟨aP, aH, H⟩ := bnd H
         obtain ⟨bO, a0, aV⟩ := Slr.at c aH
         obtain ⟨bU, rfl, bL⟩ := a0
         exact Vq Z (Qi (T := fG) c aH Z)<|VF 2 Z<|Vl (.bool aP.closed) Z (Rdc.k aV rfl)<|Ef Z<|fb<|Pu1<|Re1<|Sd<|⟨_, by exact R3, aP.closed, rfl, rfl, rfl, H⟩
    rintro _ _ _ - ⟨aw, rfl, rfl, rfl, H⟩
    unfold po at H
    refine fm rfl ?_ ?_
    ·intro al
     have H := ift al H
     refine fc<|fa<|Ea Z<|Ea Z<|fb<|fy<|?_
     obtain ⟨n, o⟩ := hX H
     subst e f
     refine ⟨(.inl rfl), [(sv fA), (.bool false)], ⟨(sv fA), _, rfl, rfl, ⟨(.bool false), _, rfl, rfl, rfl⟩⟩, ?_⟩
     exact Re0<|Sd<|⟨fA, rfl, rfl, (Slr.nil fG _)⟩
    ·intro al
     have H := f0 (btf al) H
     refine ft<|fc<|fa<|Em Z<|EF 2 Z<|El (Vi p1.channel) Z (Rb0 Z)<|?_
     obtain ⟨w, aI, H⟩ := bnd H
     obtain ⟨bP, a1, aW⟩ := Slr.at c aI
     obtain ⟨ag, rfl, a6⟩ := a1
     refine Eq Z (Qi (T := fG) c aI Z)<|EL 3 (fx w ag) Z (Rdc.k aW rfl)<|?_
     refine ff rfl (fC (cs := (fx (fL.mk 0 [] false) fA)) rfl rfl rfl rfl (fun bF => ?_))
     refine ff rfl (Sa (fx w ag) Z .here Z ?_)
     refine fb<|fc<|fa<|EF 2 Z<|?_
     refine ff rfl (So [(.bool true)] (fx (fL.mk w.capacity w.buffer true) ag) Z .here Z ?_)
     refine fb<|fc<|fa<|Em Z<|EF 2 Z<|El (Vi p1.channel) Z (Rb1 Z)<|EL 3 (fx (fL.mk w.capacity w.buffer true) ag) Z (Rb0 Z)<|?_
     obtain ⟨bt, bh, H⟩ := bnd H
     refine ff rfl (Ek Tryz.call112 Z (wq p0 a p1.channel (fL.mk w.capacity w.buffer true) ag bt bh _ _ c a6) ?_)
     rintro _ _ _ - ⟨az, bS, rfl, rfl, rfl, a7⟩
     refine Ea Z<|Ea Z<|fb<|fy<|?_
     obtain ⟨n, o⟩ := hX H
     subst e f
     refine ⟨(.inl rfl), [(sv az), (.bool true)], ⟨(sv az), _, rfl, rfl, ⟨(.bool true), _, rfl, rfl, rfl⟩⟩, ?_⟩
     refine Shift.settle (T := fG) .here a7 rfl ?_
     intro bA bI a8
     exact Re0<|Re0<|Re0<|Sd<|⟨az, rfl, rfl, a8⟩
   ·intro N
    obtain ⟨N, H⟩ := If N H
    refine fc<|fa<|Ec Z<|Ea Z<|fb<|?_
    refine fm rfl ?_ ?_
    ·intro O
     obtain ⟨O, H⟩ := It O H
     refine fz (fun i h g => ∃ (ad : Bool), [(6, (sv a)), (7, (.bool ad))] = i ∧ G = g ∧ pp p0 ad = some (e, f)) ?_ ?_
     ·refine fa<|Em Z<|Em Z<|Em Z<|?_
      refine Ee Z ?_ ?_
      ·intro am
       have H := ift am H
       refine VF 1 Z<|Vl (Vi p1.mode) Z (Rb1 Z)<|Vc Z<|Et Z<|Em Z<|?_
       refine Ee Z ?_ ?_
       ·intro P
        obtain ⟨P, H⟩ := It P H
        refine VF 1 Z<|Vl (Vi p2.case_) Z (Rb0 Z)<|Vc Z<|Et Z<|Em Z<|?_
        refine Ee Z ?_ ?_
        ·intro Q
         obtain ⟨Q, H⟩ := It Q H
         refine VL 5 (fe p2) Z (Rb0 Z) ?_
         obtain ⟨bu, bi, H⟩ := bnd H
         refine hY rfl rfl rfl rfl (Ek Tryz.call111 Z (iP p2 false false bu bi _ _ ) ?_)
         rintro _ _ _ - ⟨rfl, rfl, rfl⟩
         refine Et Z<|Em Z<|?_
         refine Ee Z ?_ ?_
         ·intro an
          have H := ift an H
          refine Vm Z<|VL 7 (fj p1 j l) Z (Rb1 Z)<|?_
          obtain ⟨aQ, bj, H⟩ := bnd H
          refine hY rfl rfl rfl rfl (Ek Tryz.call113 Z (B0 p0 a p1 j l aQ bj _ _ c aq ar) ?_)
          rintro _ bB _ bJ ⟨rfl, rfl⟩
          exact Et Z<|Ea Z<|Ea Z<|fb<|Re0<|Re0<|Sd<|⟨_, by exact R2, aQ, rfl, rfl, H⟩
         ·intro an
          have H := f0 (btf an) H
          exact Ez Z<|Ez Z<|Ez Z<|Ef Z<|Ea Z<|Ea Z<|fb<|Re0<|Re0<|Sd<|⟨_, by exact R2, false, rfl, rfl, H⟩
        ·intro Q
         obtain ⟨Q, H⟩ := If Q H
         exact Ez Z<|Ez Z<|Ef Z<|Em Z<|Ez Z<|Ez Z<|Ez Z<|Ef Z<|Ea Z<|Ea Z<|fb<|Re0<|Re0<|Sd<|⟨_, by exact R2, false, rfl, rfl, H⟩
       ·intro P
        obtain ⟨P, H⟩ := If P H
        exact Ez Z<|Ez Z<|Ez Z<|Ef Z<|Em Z<|Ez Z<|Ez Z<|Ef Z<|Em Z<|Ez Z<|Ez Z<|Ez Z<|Ef Z<|Ea Z<|Ea Z<|fb<|Re0<|Re0<|Sd<|⟨_, by exact R2, false, rfl, rfl, H⟩
      ·intro am
       have H := f0 (btf am) H
       refine Ez Z<|Ez Z<|Ez Z<|Ef Z<|Em Z<|Ez Z<|Ez Z<|Ez Z<|Ef Z<|Em Z<|Ez Z<|Ez Z<|Ef Z<|Em Z<|Ez Z<|Ez Z<|Ez Z<|Ef Z<|Ea Z<|Ea Z<|fb<|Re0<|?_
       exact Re0<|Sd<|⟨_, by exact R2, false, rfl, rfl, H⟩
     rintro _ bC _ aT ⟨ad, rfl, rfl, H⟩
     unfold pp at H
     refine fy ?_
     obtain ⟨n, o⟩ := hX H
     subst e f
     refine ⟨(.inl rfl), [(sv a), (.bool ad)], ⟨(sv a), _, rfl, rfl, ⟨(.bool ad), _, rfl, rfl, rfl⟩⟩, ?_⟩
     have a9 := c.mono aT
     exact Sd ⟨a, rfl, rfl, a9⟩
    ·intro O
     obtain ⟨O, H⟩ := If O H
     refine fc<|fa<|Ec Z<|Ea Z<|fb<|?_
     refine fm rfl ?_ ?_
     ·intro R
      obtain ⟨R, H⟩ := It R H
      refine fz (fun i h g => ∃ (ae : Bool), [(6, (sv a)), (7, (.bool ae))] = i ∧ K = h ∧ G = g ∧ sk p0 ae = some (e, f)) ?_ ?_
      ·refine fa<|Em Z<|Em Z<|Em Z<|?_
       refine Ee Z ?_ ?_
       ·intro ao
        have H := ift ao H
        refine VF 1 Z<|Vl (Vi p1.mode) Z (Rb1 Z)<|Vc Z<|Et Z<|Em Z<|?_
        refine Ee Z ?_ ?_
        ·intro S
         obtain ⟨S, H⟩ := It S H
         refine VF 1 Z<|Vl (Vi p2.case_) Z (Rb0 Z)<|Vc Z<|Et Z<|Em Z<|?_
         refine Ee Z ?_ ?_
         ·intro U
          obtain ⟨U, H⟩ := It U H
          refine VL 5 (fe p2) Z (Rb0 Z) ?_
          obtain ⟨aR, bk, H⟩ := bnd H
          refine hY rfl rfl rfl rfl (Ek Tryz.call111 Z (iP p2 false false aR bk _ _ ) ?_)
          rintro _ _ _ - ⟨rfl, rfl, rfl⟩
          exact Et Z<|Ea Z<|Ea Z<|fb<|Re0<|Re0<|Sd<|⟨_, by exact R2, aR, rfl, rfl, rfl, H⟩
         ·intro U
          obtain ⟨U, H⟩ := If U H
          exact Ez Z<|Ez Z<|Ef Z<|Ea Z<|Ea Z<|fb<|Re0<|Re0<|Sd<|⟨_, by exact R2, false, rfl, rfl, rfl, H⟩
        ·intro S
         obtain ⟨S, H⟩ := If S H
         exact Ez Z<|Ez Z<|Ez Z<|Ef Z<|Em Z<|Ez Z<|Ez Z<|Ef Z<|Ea Z<|Ea Z<|fb<|Re0<|Re0<|Sd<|⟨_, by exact R2, false, rfl, rfl, rfl, H⟩
       ·intro ao
        have H := f0 (btf ao) H
        exact Ez Z<|Ez Z<|Ez Z<|Ef Z<|Em Z<|Ez Z<|Ez Z<|Ez Z<|Ef Z<|Em Z<|Ez Z<|Ez Z<|Ef Z<|Ea Z<|Ea Z<|fb<|Re0<|Re0<|Sd<|⟨_, by exact R2, false, rfl, rfl, rfl, H⟩
      rintro _ _ _ - ⟨ae, rfl, rfl, rfl, H⟩
      unfold sk at H
      refine fy ?_
      obtain ⟨n, o⟩ := hX H
      subst e f
      refine ⟨(.inl rfl), [(sv a), (.bool ae)], ⟨(sv a), _, rfl, rfl, ⟨(.bool ae), _, rfl, rfl, rfl⟩⟩, ?_⟩
      exact Sd ⟨a, rfl, rfl, c⟩
     ·intro R
      obtain ⟨R, H⟩ := If R H
      refine fc<|fa<|Ec Z<|Ea Z<|fb<|?_
      refine fm rfl ?_ ?_
      ·intro V
       obtain ⟨V, H⟩ := It V H
       refine fc<|fa<|Ea Z<|fb<|?_
       refine fz (fun i h g => ∃ (aa : Int), [(0, (sv a)), (4, (Vp s)), (5, (Vp D)), (14, (Vi aa))] = i ∧ K = h ∧ (.blk D 38 (fe p2)) :: (.blk s 51 (fj p1 j l)) :: G = g ∧ oo p0 p2 p1 aa = some (e, f)) ?_ ?_
       ·refine fc<|fa<|Em Z<|EF 2 Z<|El (Vi p1.channel) Z (Rb1 Z)<|?_
        obtain ⟨bv, bl, H⟩ := bnd H
        refine ff rfl (Ek Tryz.call107 Z (lB p0 a p1.channel bv bl _ _ c) ?_)
        rintro _ _ _ - ⟨rfl, rfl, rfl⟩
        refine fb ?_
        refine fm rfl ?_ ?_
        ·intro ap
         have H := ift ap H
         refine fc<|fa<|Em Z<|EF 2 Z<|El (Vi p1.channel) Z (Rb1 Z)<|?_
         obtain ⟨bw, aJ, H⟩ := bnd H
         obtain ⟨bQ, a2, aX⟩ := Slr.at c aJ
         obtain ⟨bm, rfl, ba⟩ := a2
         refine Eq Z (Qi (T := fG) c aJ Z)<|EF 1 Z<|El (sv bm) Z (Rdc.k aX rfl)<|Eq Z (ge (T := Ty.u64) ba rfl rfl)<|Ea Z<|fb<|fc<|fa<|EF 0 Z<|El (Vi p1.kind) Z (Rb1 Z)<|Ec Z<|fb<|?_
         refine fm rfl ?_ ?_
         ·intro W
          obtain ⟨W, H⟩ := It W H
          refine fa<|Em Z<|EF 2 Z<|El (Vi p1.channel) Z (Rb1 Z)<|?_
          obtain ⟨aS, aK, H⟩ := bnd H
          obtain ⟨bR, a3, aY⟩ := Slr.at c aK
          obtain ⟨bV, rfl, bM⟩ := a3
          exact Eq Z (Qi (T := fG) c aK Z)<|EF 0 Z<|El (Vi aS.capacity) Z (Rdc.k aY rfl)<|Ea Z<|fb<|Pu1<|Pu1<|Sd<|⟨_, by exact R4, aS.capacity, rfl, rfl, rfl, H⟩
         ·intro W
          obtain ⟨W, H⟩ := If W H
          exact ft<|Pu1<|Pu1<|Sd<|⟨_, by exact R4, (bw.buffer.length : Int), rfl, rfl, rfl, H⟩
        ·intro ap
         have H := f0 (btf ap) H
         exact ft<|Pu1<|Pu1<|Sd<|⟨_, by exact R4, 0, rfl, rfl, rfl, H⟩
       rintro _ _ _ - ⟨aa, rfl, rfl, rfl, H⟩
       unfold oo at H
       refine fz (fun i h g => ∃ (af : Bool), [(6, (sv a)), (7, (.bool af))] = i ∧ K = h ∧ G = g ∧ md p0 af = some (e, f)) ?_ ?_
       ·rcases gQ (dcd (p1.kind = 5)) with b | b <;> revert b
        ·intro m
         obtain ⟨m, H⟩ := It m H
         rcases gQ (dcd (p2.case_ = (-1))) with b | b <;> revert b
         ·intro t
          obtain ⟨t, H⟩ := It t H
          obtain ⟨aD, aL, H⟩ := bnd H
          rcases gQ aD with b | b <;> revert b
          ·intro X
           have H := ift X H
           refine fq _ rfl (Ic Mb0 (Ic Mb1 In0))<|Jm 0 Z<|JF 1 0 Z<|Jl 2 (Vi p1.kind) Z (Rb1 Z)<|Jc 3 Z<|Jm 4 Z<|Aw.known (d := 197) rfl (hZ m)<|Jz 5 Z<|Jz 6 Z<|Jz 7 Z<|Jt 8 Z<|Jm 9 Z<|BF 10 1 Z<|Bl 11 (Vi p2.case_) Z (Rb0 Z)<|Bc 12 Z<|Jt 13 Z<|Jm 14 Z<|Aw.known (d := 207) rfl (hZ t)<|BL 15 5 (fe p2) Z (Rb0 Z)<|?_
           refine gx 16 (by kernel_rfl) (jK rfl rfl rfl rfl rfl ?_)
           refine Ek Tryz.call111 Z (iP p2 false true aD aL _ _ ) ?_
           rintro _ _ _ - ⟨rfl, rfl, rfl⟩
           refine ⟨(Ic Mb0 (Ic Mb1 In0)), ?_⟩
           exact Jt 17 Z<|Jm 18 Z<|Aw.known (d := 211) rfl (X)<|BF 19 4 Z<|Bl 20 (Vi p2.number) Z (Rb0 Z)<|Bm 21 Z<|Bc 22 Z<|Jt 23 Z<|Ja 24 Z<|Ja 25 Z<|Ad<|Re0<|Re0<|Sd<|⟨_, by exact R2, (dcd (p2.number = aa)), rfl, rfl, rfl, H⟩
          ·intro X
           have H := f0 (btf X) H
           refine fq _ rfl (Ic Mb0 (Ic Mb1 In0))<|Jm 0 Z<|JF 1 0 Z<|Jl 2 (Vi p1.kind) Z (Rb1 Z)<|Jc 3 Z<|Jm 4 Z<|Aw.known (d := 197) rfl (hZ m)<|Jz 5 Z<|Jz 6 Z<|Jz 7 Z<|Jt 8 Z<|Jm 9 Z<|BF 10 1 Z<|Bl 11 (Vi p2.case_) Z (Rb0 Z)<|Bc 12 Z<|Jt 13 Z<|Jm 14 Z<|Aw.known (d := 207) rfl (hZ t)<|BL 15 5 (fe p2) Z (Rb0 Z)<|?_
           refine gx 16 (by kernel_rfl) (jK rfl rfl rfl rfl rfl ?_)
           refine Ek Tryz.call111 Z (iP p2 false true aD aL _ _ ) ?_
           rintro _ _ _ - ⟨rfl, rfl, rfl⟩
           refine ⟨(Ic Mb0 (Ic Mb1 In0)), ?_⟩
           exact Jt 17 Z<|Jm 18 Z<|Aw.known (d := 211) rfl (X)<|Jz 19 Z<|Jz 20 Z<|Jz 21 Z<|Jz 22 Z<|Jf 23 Z<|Ja 24 Z<|Ja 25 Z<|Ad<|Re0<|Re0<|Sd<|⟨_, by exact R2, false, rfl, rfl, rfl, H⟩
         ·intro t
          obtain ⟨t, H⟩ := If t H
          refine fq _ rfl (Ic Mb0 (Ic Mb1 In0))<|Jm 0 Z<|JF 1 0 Z<|Jl 2 (Vi p1.kind) Z (Rb1 Z)<|Jc 3 Z<|Jm 4 Z<|Aw.known (d := 197) rfl (hZ m)<|Jz 5 Z<|Jz 6 Z<|Jz 7 Z<|Jt 8 Z<|Jm 9 Z<|BF 10 1 Z<|Bl 11 (Vi p2.case_) Z (Rb0 Z)<|Bc 12 Z<|Jt 13 Z<|Jm 14 Z<|Aw.known (d := 207) rfl (io t)<|Jz 15 Z<|Jz 16 Z<|Jf 17 Z<|Jm 18 Z<|?_
          exact Jz 19 Z<|Jz 20 Z<|Jz 21 Z<|Jz 22 Z<|Jf 23 Z<|Ja 24 Z<|Ja 25 Z<|Ad<|Re0<|Re0<|Sd<|⟨_, by exact R2, false, rfl, rfl, rfl, H⟩
        ·intro m
         obtain ⟨m, H⟩ := If m H
         rcases gQ (dcd (p1.kind = 6)) with b | b <;> revert b
         ·intro r
          obtain ⟨r, H⟩ := It r H
          rcases gQ (dcd (p2.case_ = (-1))) with b | b <;> revert b
          ·intro u
           obtain ⟨u, H⟩ := It u H
           obtain ⟨aE, aM, H⟩ := bnd H
           rcases gQ aE with b | b <;> revert b
           ·intro Y
            have H := ift Y H
            refine fq _ rfl (Ic Mb0 (Ic Mb1 In0))<|Jm 0 Z<|JF 1 0 Z<|Jl 2 (Vi p1.kind) Z (Rb1 Z)<|Jc 3 Z<|Jm 4 Z<|Aw.known (d := 197) rfl (io m)<|BF 5 0 Z<|Bl 6 (Vi p1.kind) Z (Rb1 Z)<|Bc 7 Z<|Jf 8 Z<|Jm 9 Z<|Aw.known (d := 202) rfl (hZ r)<|BF 10 1 Z<|Bl 11 (Vi p2.case_) Z (Rb0 Z)<|Bc 12 Z<|Jt 13 Z<|Jm 14 Z<|Aw.known (d := 207) rfl (hZ u)<|BL 15 5 (fe p2) Z (Rb0 Z)<|?_
            refine gx 16 (by kernel_rfl) (jK rfl rfl rfl rfl rfl ?_)
            refine Ek Tryz.call111 Z (iP p2 false true aE aM _ _ ) ?_
            rintro _ _ _ - ⟨rfl, rfl, rfl⟩
            refine ⟨(Ic Mb0 (Ic Mb1 In0)), ?_⟩
            exact Jt 17 Z<|Jm 18 Z<|Aw.known (d := 211) rfl (Y)<|BF 19 4 Z<|Bl 20 (Vi p2.number) Z (Rb0 Z)<|Bm 21 Z<|Bc 22 Z<|Jt 23 Z<|Ja 24 Z<|Ja 25 Z<|Ad<|Re0<|Re0<|Sd<|⟨_, by exact R2, (dcd (p2.number = aa)), rfl, rfl, rfl, H⟩
           ·intro Y
            have H := f0 (btf Y) H
            refine fq _ rfl (Ic Mb0 (Ic Mb1 In0))<|Jm 0 Z<|JF 1 0 Z<|Jl 2 (Vi p1.kind) Z (Rb1 Z)<|Jc 3 Z<|Jm 4 Z<|Aw.known (d := 197) rfl (io m)<|BF 5 0 Z<|Bl 6 (Vi p1.kind) Z (Rb1 Z)<|Bc 7 Z<|Jf 8 Z<|Jm 9 Z<|Aw.known (d := 202) rfl (hZ r)<|BF 10 1 Z<|Bl 11 (Vi p2.case_) Z (Rb0 Z)<|Bc 12 Z<|Jt 13 Z<|Jm 14 Z<|Aw.known (d := 207) rfl (hZ u)<|BL 15 5 (fe p2) Z (Rb0 Z)<|?_
            refine gx 16 (by kernel_rfl) (jK rfl rfl rfl rfl rfl ?_)
            refine Ek Tryz.call111 Z (iP p2 false true aE aM _ _ ) ?_
            rintro _ _ _ - ⟨rfl, rfl, rfl⟩
            refine ⟨(Ic Mb0 (Ic Mb1 In0)), ?_⟩
            exact Jt 17 Z<|Jm 18 Z<|Aw.known (d := 211) rfl (Y)<|Jz 19 Z<|Jz 20 Z<|Jz 21 Z<|Jz 22 Z<|Jf 23 Z<|Ja 24 Z<|Ja 25 Z<|Ad<|Re0<|Re0<|Sd<|⟨_, by exact R2, false, rfl, rfl, rfl, H⟩
          ·intro u
           obtain ⟨u, H⟩ := If u H
           refine fq _ rfl (Ic Mb0 (Ic Mb1 In0))<|Jm 0 Z<|JF 1 0 Z<|Jl 2 (Vi p1.kind) Z (Rb1 Z)<|Jc 3 Z<|Jm 4 Z<|Aw.known (d := 197) rfl (io m)<|BF 5 0 Z<|Bl 6 (Vi p1.kind) Z (Rb1 Z)<|Bc 7 Z<|Jf 8 Z<|Jm 9 Z<|Aw.known (d := 202) rfl (hZ r)<|BF 10 1 Z<|Bl 11 (Vi p2.case_) Z (Rb0 Z)<|Bc 12 Z<|Jt 13 Z<|Jm 14 Z<|Aw.known (d := 207) rfl (io u)<|Jz 15 Z<|Jz 16 Z<|Jf 17 Z<|?_
           exact Jm 18 Z<|Jz 19 Z<|Jz 20 Z<|Jz 21 Z<|Jz 22 Z<|Jf 23 Z<|Ja 24 Z<|Ja 25 Z<|Ad<|Re0<|Re0<|Sd<|⟨_, by exact R2, false, rfl, rfl, rfl, H⟩
         ·intro r
          obtain ⟨r, H⟩ := If r H
          refine fq _ rfl (Ic Mb0 (Ic Mb1 In0))<|Jm 0 Z<|JF 1 0 Z<|Jl 2 (Vi p1.kind) Z (Rb1 Z)<|Jc 3 Z<|Jm 4 Z<|Aw.known (d := 197) rfl (io m)<|BF 5 0 Z<|Bl 6 (Vi p1.kind) Z (Rb1 Z)<|Bc 7 Z<|Jf 8 Z<|Jm 9 Z<|Aw.known (d := 202) rfl (io r)<|Jz 10 Z<|Jz 11 Z<|Jz 12 Z<|Jf 13 Z<|Jm 14 Z<|Jz 15 Z<|Jz 16 Z<|Jf 17 Z<|Jm 18 Z<|?_
          exact Jz 19 Z<|Jz 20 Z<|Jz 21 Z<|Jz 22 Z<|Jf 23 Z<|Ja 24 Z<|Ja 25 Z<|Ad<|Re0<|Re0<|Sd<|⟨_, by exact R2, false, rfl, rfl, rfl, H⟩
       rintro _ _ _ - ⟨af, rfl, rfl, rfl, H⟩
       unfold md at H
       refine fy ?_
       obtain ⟨n, o⟩ := hX H
       subst e f
       refine ⟨(.inl rfl), [(sv a), (.bool af)], ⟨(sv a), _, rfl, rfl, ⟨(.bool af), _, rfl, rfl, rfl⟩⟩, ?_⟩
       exact Sd ⟨a, rfl, rfl, c⟩
      ·intro V
       obtain ⟨V, H⟩ := If V H
       refine ft<|fc<|fa<|Ea Z<|Ea Z<|fb<|fy<|?_
       obtain ⟨n, o⟩ := hX H
       subst e f
       refine ⟨(.inl rfl), [(sv fA), (.bool false)], ⟨(sv fA), _, rfl, rfl, ⟨(.bool false), _, rfl, rfl, rfl⟩⟩, ?_⟩
       exact Re0<|Re0<|Sd<|⟨fA, rfl, rfl, (Slr.nil fG _)⟩
theorem xq (p0 : ad0) (g : SV) (p1 : Op) (b : SV) (c : SV) (p2 : Result) (d : ad0) (e : Bool) (H : or p0 p1 p2 = some (d, e)) (K : Kp) (G : List Ent) (m : Slr fG K (sv g) p0) (n : Slr fV K (sv b) p1.cases) (o : Slr Ty.i64 K (sv c) p1.draws) :
  Fc Tryz.prog 51 #[(sv g), (.agg (fj p1 b c).toArray), (.agg (fe p2).toArray)] K (G) (fun v j i => ∃ (h : SV), v = (.tuple #[(sv h), (.bool e)]) ∧ G = i ∧ Slr fG j (sv h) d) := by
 refine fO Tryz.func51 rfl Tryz.ntmps51 Tryz.results51 rfl ?_
 unfold or at H
 refine fc<|fa<|?_
 refine ff rfl (fU (cs := (fj p1 b c)) rfl rfl rfl (fun t => ?_))
 refine ff rfl (fU (cs := (fe p2)) rfl rfl rfl (fun u => ?_))
 refine Ea Z<|Ea Z<|fb<|fc<|fa<|Em Z<|EL 7 (fj p1 b c) Z (Rb1 Z)<|EL 5 (fe p2) Z (Rb0 Z)<|?_
 obtain ⟨r, x14, q, H⟩ := ix H
 refine ff rfl (Ek Tryz.call85 Z (CC p0 g p1 b c p2 r x14 q _ _ m n o) ?_)
 rintro _ s _ w ⟨f, rfl, rfl, p⟩
 refine Em Z<|Ex Z<|Ex Z<|Ea Z<|Ea Z<|fb<|fc<|fc<|fa<|Em Z<|Eq Z (gd rfl)<|fb<|?_
 refine fm rfl ?_ ?_
 ·intro a
  have a := ir a
  have H := f0 (btf a) H
  refine fc<|fa<|Ea Z<|Ea Z<|fb<|fy<|?_
  obtain ⟨k, l⟩ := hX H
  subst d e
  refine ⟨(.inl rfl), [(sv fA), (.bool false)], ⟨(sv fA), _, rfl, rfl, ⟨(.bool false), _, rfl, rfl, rfl⟩⟩, ?_⟩
  exact Re0<|Re0<|Sd<|⟨fA, rfl, rfl, (Slr.nil fG _)⟩
 ·intro a
  have a := iq a
  have H := ift a H
  refine ft<|fc<|fa<|Em Z<|Ea Z<|Ea Z<|fb<|fy<|?_
  obtain ⟨k, l⟩ := hX H
  subst d e
  refine ⟨(.inl rfl), [(sv f), (.bool true)], ⟨(sv f), _, rfl, rfl, ⟨(.bool true), _, rfl, rfl, rfl⟩⟩, ?_⟩
  exact Re0<|Re0<|Sd<|⟨f, rfl, rfl, p⟩
end Go.Hx
namespace Go.Hx
open Go Go.Proofs
set_option maxRecDepth 10000
set_option maxHeartbeats 1000000
theorem xr (p0 : ad0) (i : SV) (p1 : Op) (g : SV) (h : SV) (j : ad5) (H : ow p0 p1 = some j) (K : Kp) (G : List Ent) (aa : Slr fG K (sv i) p0) (au : Slr fV K (sv g) p1.cases) (av : Slr Ty.i64 K (sv h) p1.draws) :
  Fc Tryz.prog 84 #[(sv i), (.agg (fj p1 g h).toArray)] K (G) (fun v b c => ∃ (ak : SV), v = (sv ak) ∧ (.tok 38 5 [(sv ak)]) :: G = c ∧ Slr fN b (sv ak) j) := by
 refine fO Tryz.func84 rfl Tryz.ntmps84 Tryz.results84 rfl ?_
 unfold ow at H
 refine fc<|fa<|?_
 refine ff rfl (fU (cs := (fj p1 g h)) rfl rfl rfl (fun e => ?_))
 refine Ea Z<|fb<|fc<|fa<|Ea Z<|Ea Z<|fb<|?_
 refine fz (fun d b c => ∃ (Q : SV) (M : ad5) (O : List (List Value)), [(0, (sv i)), (3, (Vp e)), (5, (sv Q)), (6, (sv fA))] = d ∧ K = b ∧ (.blk e 51 (fj p1 g h)) :: (.row (sv Q) 38 5 O.flatten) :: G = c ∧ ov p0 p1 M = some j ∧ RowR fN b O M) ?_ ?_
 ·refine fc<|fa<|EF 0 Z<|El (Vi p1.kind) Z (Rb0 Z)<|Ec Z<|fb<|?_
  refine fm rfl ?_ ?_
  ·intro z
   obtain ⟨z, H⟩ := It z H
   refine fa<|Eq Z (fF (cs := (fe (Result.mk 6 (-1) 0 false 0))) rfl rfl rfl rfl rfl rfl)<|Eq Z (fF (cs := (fe (Result.mk 5 (-1) 0 false 0))) rfl rfl rfl rfl rfl rfl)<|?_
   have am : RowR fN K [(fe (Result.mk 6 (-1) 0 false 0)), (fe (Result.mk 5 (-1) 0 false 0))] [(Result.mk 6 (-1) 0 false 0), (Result.mk 5 (-1) 0 false 0)] := RowR.cons rfl (RowR.cons rfl (RowR.nil))
   refine ff rfl (gg (T := fN) (rows := [(fe (Result.mk 6 (-1) 0 false 0)), (fe (Result.mk 5 (-1) 0 false 0))]) (l := [(Result.mk 6 (-1) 0 false 0), (Result.mk 5 (-1) 0 false 0)]) rfl rfl rfl am rfl rfl rfl rfl rfl rfl rfl rfl (fun bq => ?_))
   exact Ea Z<|fb<|Pu1<|Sd<|⟨_, by exact R4, bq, [(Result.mk 6 (-1) 0 false 0), (Result.mk 5 (-1) 0 false 0)], [(fe (Result.mk 6 (-1) 0 false 0)), (fe (Result.mk 5 (-1) 0 false 0))], rfl, rfl, rfl, H, am⟩
  ·intro z
   obtain ⟨z, H⟩ := If z H
   refine ft ?_
   have aP : RowR fN K [] [] := RowR.nil
   exact Shift.nilRow 38 5<|Pu1<|Sd<|⟨_, by exact R4, fA, ([] : ad5), ([] : List (List Value)), rfl, rfl, rfl, H, aP⟩
 rintro _ _ _ - ⟨Q, M, O, rfl, rfl, rfl, H, aO⟩
 unfold ov at H
 refine fc<|fa<|EL 7 (fj p1 g h) Z (Rb0 Z)<|?_
 obtain ⟨I, bh, H⟩ := bnd H
 refine ff rfl (Ek Tryz.call44 Z (kY p1 g h I bh _ _ au av) ?_)
 rintro _ o _ u ⟨R, rfl, rfl, m⟩
 refine Ea Z<|fb<|?_
 refine fz (fun d b c => ∃ (E : SV) (N : ad5) (P : List (List Value)), [(0, (sv i)), (3, (Vp e)), (5, (sv E)), (6, (sv fA))] = d ∧ (.blk e 51 (fj p1 g h)) :: (.row (sv E) 38 5 P.flatten) :: G = c ∧ ry p0 p1 N = some j ∧ RowR fN b P N) ?_ ?_
 ·refine fc<|fa<|Ea Z<|fb<|fB<|?_
  refine f8 (fun aK d b c => ∃ (n : SV) (r : ad5) (s : List (List Value)) (f : Int), [(0, (sv i)), (3, (Vp e)), (5, (sv n)), (6, (sv fA)), (7, (sv R)), (8, (Vi f))] = d ∧ o = b ∧ (.blk e 51 (fj p1 g h)) :: (.row (sv n) 38 5 s.flatten) :: G = c ∧ lp2 (rz p0 I p1) aK r f = some j ∧ RowR fN b s r) BIG ?_ ?_
  ·refine Pu1<|Pu1<|?_
   have bd := aO.mono u
   exact Sd ⟨_, by exact R6, Q, M, O, 0, rfl, rfl, rfl, H, bd⟩
  rintro aK _ _ _ - ⟨n, r, s, f, rfl, rfl, rfl, H, L⟩
  obtain ⟨bS, ae, rfl, ar, H⟩ := jF H
  unfold rz at H
  refine fc<|fc<|fa<|Em Z<|Em Z<|Eq Z (ge (T := fV) m rfl rfl)<|Ec Z<|fb<|?_
  refine fm rfl ?_ ?_
  ·intro A
   obtain ⟨A, H⟩ := It A H
   refine ft<|fc<|fB<|fc<|fa<|Ea Z<|fb<|?_
   refine fz (fun d b c => ∃ (a : Int), [(0, (sv i)), (3, (Vp e)), (5, (sv n)), (6, (sv fA)), (7, (sv R)), (8, (Vi f)), (9, (Vi a))] = d ∧ o = b ∧ (.blk e 51 (fj p1 g h)) :: (.row (sv n) 38 5 s.flatten) :: G = c ∧ ou p0 r I f p1 ae a = some j) ?_ ?_
   ·refine fc<|fa<|EF 0 Z<|El (Vi p1.kind) Z (Rb0 Z)<|Ec Z<|fb<|?_
    refine fm rfl ?_ ?_
    ·intro B
     obtain ⟨B, H⟩ := It B H
     exact fa<|Em Z<|Ea Z<|fb<|Pu1<|Pu1<|Sd<|⟨_, by exact R7, f, rfl, rfl, rfl, H⟩
    ·intro B
     obtain ⟨B, H⟩ := If B H
     exact ft<|Pu1<|Pu1<|Sd<|⟨_, by exact R7, (-1), rfl, rfl, rfl, H⟩
   rintro _ _ _ - ⟨a, rfl, rfl, rfl, H⟩
   unfold ou at H
   refine fc<|fc<|fa<|Em Z<|Em Z<|?_
   obtain ⟨bA, aC, H⟩ := bnd H
   obtain ⟨_, rfl, aV⟩ := Slr.at m aC
   refine Eq Z (Qi (T := fV) m aC Z)<|EF 0 Z<|El (.bool bA.send) Z (Rdc.k aV rfl)<|fb<|?_
   refine fm rfl ?_ ?_
   ·intro U
    have H := ift U H
    refine fc<|fa<|Em Z<|Em Z<|Eq Z (fF (cs := (fe (Result.mk 5 a 0 false 0))) rfl rfl rfl rfl rfl rfl)<|Em Z<|Eq Z (fF (cs := (fe (Result.mk 1 a 0 false 0))) rfl rfl rfl rfl rfl rfl)<|?_
    have an : RowR fN o [(fe (Result.mk 5 a 0 false 0)), (fe (Result.mk 1 a 0 false 0))] [(Result.mk 5 a 0 false 0), (Result.mk 1 a 0 false 0)] := RowR.cons rfl (RowR.cons rfl (RowR.nil))
    refine ff rfl (gg (T := fN) (rows := [(fe (Result.mk 5 a 0 false 0)), (fe (Result.mk 1 a 0 false 0))]) (l := [(Result.mk 5 a 0 false 0), (Result.mk 1 a 0 false 0)]) rfl rfl rfl an rfl rfl rfl rfl rfl rfl rfl rfl (fun bZ => ?_))
    obtain ⟨bB, bi, H⟩ := bnd H
    refine ff rfl (gW (T := fN) (bytes := 40) rfl rfl rfl Mb2 L (SrcT.row Mb0 an rfl) bi rfl rfl rfl rfl rfl rfl rfl rfl (fun br bm aR => ⟨_, (.there (.there .here)), ?_⟩))
    refine Ow.shift (Re0 (Sd ?_))
    exact Ea Z<|fb<|ga<|fa<|Em Z<|Er (wI (f + 1)) Z<|Ea Z<|fb<|Pu1<|Pu1<|Sd<|⟨_, by exact R6, _, Nat.lt_succ_self _, br, bB, bm, (wI (f + 1)), rfl, rfl, rfl, (ar ▸ H), aR⟩
   ·intro U
    have H := f0 (btf U) H
    refine ft ?_
    refine fz (fun d b c => ∃ (aj : SV) (ag : ad5) (ah : List (List Value)), [(0, (sv i)), (3, (Vp e)), (5, (sv aj)), (6, (sv fA)), (7, (sv R)), (8, (Vi f)), (9, (Vi a))] = d ∧ o = b ∧ (.blk e 51 (fj p1 g h)) :: (.row (sv aj) 38 5 ah.flatten) :: G = c ∧ ot p0 I f a p1 ae ag = some j ∧ RowR fN b ah ag) ?_ ?_
    ·refine fz (fun d b c => ∃ (ai : Bool), [(0, (sv i)), (3, (Vp e)), (5, (sv n)), (6, (sv fA)), (7, (sv R)), (8, (Vi f)), (9, (Vi a)), (62, (.bool ai))] = d ∧ o = b ∧ (.blk e 51 (fj p1 g h)) :: (.row (sv n) 38 5 s.flatten) :: G = c ∧ so p0 r I f a p1 ae ai = some j) ?_ ?_
     ·refine fa<|Em Z<|Em Z<|Em Z<|?_
      obtain ⟨aM, aD, H⟩ := bnd H
      obtain ⟨_, rfl, aW⟩ := Slr.at m aD
      refine Eq Z (Qi (T := fV) m aD Z)<|EF 1 Z<|El (Vi aM.channel) Z (Rdc.k aW rfl)<|?_
      obtain ⟨bC, bj, H⟩ := bnd H
      have ad := aa.mono u
      refine ff rfl (Ek Tryz.call107 Z (lB p0 i aM.channel bC bj _ _ ad) ?_)
      rintro _ _ _ - ⟨rfl, rfl, rfl⟩
      refine Em Z ?_
      refine Ee Z ?_ ?_
      ·intro V
       have H := ift V H
       refine Vm Z<|Vm Z<|Vm Z<|?_
       obtain ⟨bD, aE, H⟩ := bnd H
       obtain ⟨_, rfl, aX⟩ := Slr.at m aE
       refine Vq Z (Qi (T := fV) m aE Z)<|VF 1 Z<|Vl (Vi bD.channel) Z (Rdc.k aX rfl)<|?_
       obtain ⟨bE, aF, H⟩ := bnd H
       obtain ⟨bV, a4, aY⟩ := Slr.at ad aF
       obtain ⟨bs, rfl, be⟩ := a4
       exact Vq Z (Qi (T := fG) ad aF Z)<|VF 1 Z<|Vl (sv bs) Z (Rdc.k aY rfl)<|Vq Z (ge (T := Ty.u64) be rfl rfl)<|Vc Z<|Et Z<|fb<|Pu1<|Pu1<|Sd<|⟨_, by exact R8, (dcd ((bE.buffer.length : Int) > 0)), rfl, rfl, rfl, H⟩
      ·intro V
       have H := f0 (btf V) H
       exact Ez Z<|Ez Z<|Ez Z<|Ez Z<|Ez Z<|Ez Z<|Ez Z<|Ez Z<|Ez Z<|Ez Z<|Ez Z<|Ef Z<|fb<|Pu1<|Pu1<|Sd<|⟨_, by exact R8, false, rfl, rfl, rfl, H⟩
     rintro _ _ _ - ⟨ai, rfl, rfl, rfl, H⟩
     unfold so at H
     refine fm rfl ?_ ?_
     ·intro W
      have H := ift W H
      refine fa<|Em Z<|Em Z<|Em Z<|Em Z<|Em Z<|?_
      obtain ⟨bF, aG, H⟩ := bnd H
      obtain ⟨_, rfl, aZ⟩ := Slr.at m aG
      refine Eq Z (Qi (T := fV) m aG Z)<|EF 1 Z<|El (Vi bF.channel) Z (Rdc.k aZ rfl)<|?_
      obtain ⟨b2, aH, H⟩ := bnd H
      have ay := aa.mono u
      obtain ⟨bW, a5, a0⟩ := Slr.at ay aH
      obtain ⟨bt, rfl, az⟩ := a5
      refine Eq Z (Qi (T := fG) ay aH Z)<|EF 1 Z<|El (sv bt) Z (Rdc.k a0 rfl)<|?_
      obtain ⟨x, aI, H⟩ := bnd H
      obtain ⟨_, rfl, a1⟩ := Slr.at az aI
      refine Eq Z (Qi (T := Ty.u64) az aI Z)<|El (.int .u64 x) Z (Rdc.k a1 rfl)<|Eq Z (fF (cs := (fe (Result.mk 2 a x true 0))) rfl rfl rfl rfl rfl rfl)<|?_
      have ao : RowR fN o [(fe (Result.mk 2 a x true 0))] [(Result.mk 2 a x true 0)] := RowR.cons rfl (RowR.nil)
      refine ff rfl (gg (T := fN) (rows := [(fe (Result.mk 2 a x true 0))]) (l := [(Result.mk 2 a x true 0)]) rfl rfl rfl ao rfl rfl rfl rfl rfl rfl rfl rfl (fun b0 => ?_))
      obtain ⟨bG, bk, H⟩ := bnd H
      refine ff rfl (gW (T := fN) (bytes := 40) rfl rfl rfl Mb2 L (SrcT.row Mb0 ao rfl) bk rfl rfl rfl rfl rfl rfl rfl rfl (fun bu bn aT => ⟨_, (.there (.there .here)), ?_⟩))
      refine Ow.shift (Re0 (Sd ?_))
      exact Ea Z<|fb<|Pu1<|Pu1<|Sd<|⟨_, by exact R7, bu, bG, bn, rfl, rfl, rfl, H, aT⟩
     ·intro W
      have H := f0 (btf W) H
      exact ft<|Pu1<|Pu1<|Sd<|⟨_, by exact R7, n, r, s, rfl, rfl, rfl, H, L⟩
    rintro _ _ _ - ⟨aj, ag, ah, rfl, rfl, rfl, H, aS⟩
    unfold ot at H
    refine fa<|Em Z<|Em Z<|Eq Z (fF (cs := (fe (Result.mk 2 a 0 false 0))) rfl rfl rfl rfl rfl rfl)<|?_
    have ap : RowR fN o [(fe (Result.mk 2 a 0 false 0))] [(Result.mk 2 a 0 false 0)] := RowR.cons rfl (RowR.nil)
    refine ff rfl (gg (T := fN) (rows := [(fe (Result.mk 2 a 0 false 0))]) (l := [(Result.mk 2 a 0 false 0)]) rfl rfl rfl ap rfl rfl rfl rfl rfl rfl rfl rfl (fun b1 => ?_))
    obtain ⟨bH, bl, H⟩ := bnd H
    refine ff rfl (gW (T := fN) (bytes := 40) rfl rfl rfl Mb2 aS (SrcT.row Mb0 ap rfl) bl rfl rfl rfl rfl rfl rfl rfl rfl (fun bv bo aU => ⟨_, (.there (.there .here)), ?_⟩))
    refine Ow.shift (Re0 (Sd ?_))
    exact Ea Z<|fb<|fa<|Em Z<|Er (wI (f + 1)) Z<|Ea Z<|fb<|Pu1<|Pu1<|Sd<|⟨_, by exact R6, _, Nat.lt_succ_self _, bv, bH, bo, (wI (f + 1)), rfl, rfl, rfl, (ar ▸ H), aU⟩
  ·intro A
   obtain ⟨A, H⟩ := If A H
   exact ga<|Pu1<|Pu1<|Sd<|⟨_, by exact R4, n, r, s, rfl, rfl, H, L⟩
 rintro _ bL _ Y ⟨E, N, P, rfl, rfl, H, aQ⟩
 unfold ry at H
 refine fz (fun d b c => ∃ (t : SV) (af : ad5), [(6, (sv t))] = d ∧ (.tok 38 5 [(sv t)]) :: G = c ∧ vB af = some j ∧ Slr fN b (sv t) af) ?_ ?_
 ·refine fc<|fa<|Ea Z<|fb<|fB<|?_
  refine f8 (fun aJ d b c => ∃ (w : SV) (D : ad5) (p : Int), [(0, (sv i)), (3, (Vp e)), (5, (sv E)), (6, (sv w)), (10, (Vi p))] = d ∧ (.blk e 51 (fj p1 g h)) :: (.tok 38 5 [(sv w)]) :: (.row (sv E) 38 5 P.flatten) :: G = c ∧ lp2 (rx p0 N p1) aJ D p = some j ∧ Slr fN b (sv w) D) BIG ?_ ?_
  ·exact Shift.nilTok1 38 5<|Pu2<|Pu1<|Pu2<|Sd<|⟨_, by exact R5, fA, ([] : ad5), 0, rfl, rfl, H, (Slr.nil fN _)⟩
  rintro aJ _ bI _ J ⟨w, D, p, rfl, rfl, H, ab⟩
  obtain ⟨bR, bQ, rfl, aq, H⟩ := jF H
  unfold rx at H
  refine fc<|fc<|fa<|Em Z<|Em Z<|?_
  have C := aQ.mono J
  refine Eq Z (lx (T := fN) Mb2 C rfl rfl rfl)<|Ec Z<|fb<|?_
  refine fm rfl ?_ ?_
  ·intro y
   obtain ⟨y, H⟩ := It y H
   refine ft<|fc<|fB<|fc<|?_
   obtain ⟨aL, aA, H⟩ := bnd H
   obtain ⟨bw, bx, bf, H⟩ := ix H
   refine fq _ rfl (Ic Mb0 (Ic Mb1 (Ic Mb2 In0)))<|Jm 0 Z<|JL 1 7 (fj p1 g h) Z (Rb0 Z)<|Jm 2 Z<|Jm 3 Z<|?_
   obtain ⟨bT, aw, a2⟩ := RowR.at C aA
   obtain rfl := a2
   refine Jq 4 Z (gy (T := fN) Mb2 C aw (fK aA).1 rfl rfl rfl rfl rfl)<|JL 5 5 (fe aL) Z (gP (T := fN) Mb2 C aw rfl rfl)<|?_
   refine Ao 6 Z ?_
   have a7 := ((aa.mono u).mono Y).mono J
   have a8 := ((au.mono u).mono Y).mono J
   have a9 := ((av.mono u).mono Y).mono J
   refine Ek Tryz.call51 Z (xq p0 i p1 g h aL bw bx bf _ _ a7 a8 a9) ?_
   rintro _ aN _ X ⟨bX, rfl, rfl, bP⟩
   refine ⟨(Ic Mb0 (Ic Mb1 (Ic Mb2 In0))), ?_⟩
   refine Jm 7 Z<|Jx 8 Z<|Jx 9 Z<|Ja 10 Z<|Ja 11 Z<|Ad<|fc<|fa<|Em Z<|fb<|?_
   refine fm rfl ?_ ?_
   ·intro S
    have H := ift S H
    refine fa<|Em Z<|Em Z<|Em Z<|?_
    obtain ⟨F, aB, H⟩ := bnd H
    have ac := C.mono X
    obtain ⟨bU, ax, a3⟩ := RowR.at ac aB
    obtain rfl := a3
    refine Eq Z (gy (T := fN) Mb2 ac ax (fK aB).1 rfl rfl rfl rfl rfl)<|EL 5 (fe F) Z (gP (T := fN) Mb2 ac ax rfl rfl)<|?_
    have al : RowR fN aN [(fe F)] [F] := RowR.cons rfl (RowR.nil)
    refine ff rfl (gg (T := fN) (rows := [(fe F)]) (l := [F]) rfl rfl rfl al rfl rfl rfl rfl rfl rfl rfl rfl (fun bY => ?_))
    obtain ⟨bz, bg, H⟩ := bnd H
    have bb := ab.mono X
    refine ff rfl (f7 (T := fN) (bytes := 40) (q := 0) rfl rfl rfl bb Mb2 rfl (SrcT.row Mb0 al rfl) bg rfl rfl rfl rfl rfl rfl rfl rfl (fun bp bJ bN ba => ⟨_, (.there (.there .here)), ?_⟩))
    refine Ow.shift (Re0 (Sd ?_))
    exact Ea Z<|fb<|fa<|Em Z<|Er (wI (p + 1)) Z<|Ea Z<|fb<|Pu2<|Pu2<|Pu2<|Sd<|⟨_, by exact R5, _, Nat.lt_succ_self _, bp, bz, (wI (p + 1)), rfl, rfl, (aq ▸ H), ba⟩
   ·intro S
    have H := f0 (btf S) H
    refine ft<|fa<|Em Z<|Er (wI (p + 1)) Z<|Ea Z<|fb<|Pu2<|Pu2<|Pu2<|?_
    have bc := ab.mono X
    exact Sd ⟨_, by exact R5, _, Nat.lt_succ_self _, w, D, (wI (p + 1)), rfl, rfl, (aq ▸ H), bc⟩
  ·intro y
   obtain ⟨y, H⟩ := If y H
   exact ga<|Pu1<|Re1<|Re1<|Sd<|⟨_, by exact R1, w, D, rfl, rfl, H, ab⟩
 rintro _ bK _ bO ⟨t, af, rfl, rfl, H, a6⟩
 unfold vB at H
 refine fc<|fa<|Em Z<|Ea Z<|fb<|fy<|?_
 obtain bM := gm H
 subst j
 refine ⟨(.inl rfl), [(sv t)], ⟨(sv t), _, rfl, rfl, rfl⟩, ?_⟩
 exact Sd ⟨t, rfl, rfl, a6⟩
theorem xt (p0 : ad0) (w : SV) (p1 : Op) (o : SV) (p : SV) (p2 : Result) (p3 : Op) (q : SV) (r : SV) (p4 : Result) (b : Bool) (H : oy p0 p1 p2 p3 p4 = some b) (K : Kp) (G : List Ent) (D : Slr fG K (sv w) p0) (S : Slr fV K (sv o) p1.cases) (U : Slr Ty.i64 K (sv p) p1.draws) (V : Slr fV K (sv q) p3.cases) (W : Slr Ty.i64 K (sv r) p3.draws) :
  Fc Tryz.prog 104 #[(sv w), (.agg (fj p1 o p).toArray), (.agg (fe p2).toArray), (.agg (fj p3 q r).toArray), (.agg (fe p4).toArray)] K (G) (fun v d c => v = (.bool b) ∧ K = d ∧ G = c) := by
 refine fO Tryz.func104 rfl Tryz.ntmps104 Tryz.results104 rfl ?_
 unfold oy at H
 refine fc<|fa<|?_
 refine ff rfl (fU (cs := (fj p1 o p)) rfl rfl rfl (fun J => ?_))
 refine ff rfl (fU (cs := (fe p2)) rfl rfl rfl (fun L => ?_))
 refine ff rfl (fU (cs := (fj p3 q r)) rfl rfl rfl (fun M => ?_))
 refine ff rfl (fU (cs := (fe p4)) rfl rfl rfl (fun x => ?_))
 refine Ea Z<|fb<|fc<|?_
 refine fz (fun s d c => ∃ (F : Bool), [(0, (sv w)), (6, (Vp J)), (7, (Vp L)), (8, (Vp M)), (9, (Vp x)), (38, (.bool F))] = s ∧ K = d ∧ (.blk x 38 (fe p4)) :: (.blk M 51 (fj p3 q r)) :: (.blk L 38 (fe p2)) :: (.blk J 51 (fj p1 o p)) :: G = c ∧ mT p0 p4 p3 p2 p1 F = some b) ?_ ?_
 ·refine fa<|EF 0 Z<|El (Vi p2.kind) Z (Rb2 Z)<|Ec Z<|Em Z<|?_
  refine Ee Z ?_ ?_
  ·intro j
   have j := ky (ir (j))
   have H := f0 j H
   refine Ez Z<|Ez Z<|Ez Z<|Et Z<|Em Z<|Ez Z<|Ez Z<|Ez Z<|Et Z<|Em Z<|Ez Z<|Ez Z<|Ez Z<|Et Z<|Em Z<|Ez Z<|Ez Z<|Ez Z<|Et Z<|fb<|Pu3<|Pu3<|?_
   exact Pu3<|Pu3<|Sd<|⟨_, by exact R6, true, rfl, rfl, rfl, H⟩
  ·intro j
   have j := kz (iq (j))
   have H := ift j H
   refine VF 0 Z<|Vl (Vi p4.kind) Z (Rb0 Z)<|Vc Z<|Ef Z<|Em Z<|?_
   refine Ee Z ?_ ?_
   ·intro l
    have l := ky (ir (l))
    have H := f0 l H
    exact Ez Z<|Ez Z<|Ez Z<|Et Z<|Em Z<|Ez Z<|Ez Z<|Ez Z<|Et Z<|Em Z<|Ez Z<|Ez Z<|Ez Z<|Et Z<|fb<|Pu3<|Pu3<|Pu3<|Pu3<|Sd<|⟨_, by exact R6, true, rfl, rfl, rfl, H⟩
   ·intro l
    have l := kz (iq (l))
    have H := ift l H
    refine VL 5 (fe p2) Z (Rb2 Z) ?_
    obtain ⟨ag, ac, H⟩ := bnd H
    refine hY rfl rfl rfl rfl (Ek Tryz.call111 Z (iP p2 false false ag ac _ _ ) ?_)
    rintro _ _ _ - ⟨rfl, rfl, rfl⟩
    refine Vq Z (gd rfl)<|Ef Z<|Em Z<|?_
    refine Ee Z ?_ ?_
    ·intro m
     have m := ir m
     have H := f0 (btf m) H
     exact Ez Z<|Ez Z<|Ez Z<|Et Z<|Em Z<|Ez Z<|Ez Z<|Ez Z<|Et Z<|fb<|Pu3<|Pu3<|Pu3<|Pu3<|Sd<|⟨_, by exact R6, true, rfl, rfl, rfl, H⟩
    ·intro m
     have m := iq m
     have H := ift m H
     refine VL 5 (fe p4) Z (Rb0 Z) ?_
     obtain ⟨ah, ad, H⟩ := bnd H
     refine hY rfl rfl rfl rfl (Ek Tryz.call111 Z (iP p4 true false ah ad _ _ ) ?_)
     rintro _ _ _ - ⟨rfl, rfl, rfl⟩
     refine Vq Z (gd rfl)<|Ef Z<|Em Z<|?_
     refine Ee Z ?_ ?_
     ·intro n
      have n := ir n
      have H := f0 (btf n) H
      exact Ez Z<|Ez Z<|Ez Z<|Et Z<|fb<|Pu3<|Pu3<|Pu3<|Pu3<|Sd<|⟨_, by exact R6, true, rfl, rfl, rfl, H⟩
     ·intro n
      have n := iq n
      have H := ift n H
      exact VF 3 Z<|Vl (.bool p4.ok) Z (Rb0 Z)<|Vq Z (gd rfl)<|Ef Z<|fb<|Pu3<|Pu3<|Pu3<|Pu3<|Sd<|⟨_, by exact R6, (!(p4.ok)), rfl, rfl, rfl, H⟩
 rintro _ _ _ - ⟨F, rfl, rfl, rfl, H⟩
 unfold mT at H
 refine fm rfl ?_ ?_
 ·intro C
  have H := ift C H
  refine fc<|fa<|Ea Z<|fb<|fy<|?_
  obtain N := gm H
  subst b
  refine ⟨(.inl rfl), [(.bool false)], ⟨(.bool false), _, rfl, rfl, rfl⟩, ?_⟩
  exact Re0<|Re0<|Re0<|Re0<|Sd<|⟨rfl, rfl, rfl⟩
 ·intro C
  have H := f0 (btf C) H
  refine ft<|fc<|fa<|EL 7 (fj p1 o p) Z (Rb3 Z)<|EL 5 (fe p2) Z (Rb2 Z)<|?_
  obtain ⟨a, ae, Y, H⟩ := ix H
  refine ff rfl (Ek Tryz.call109 Z (pV p1 o p p2 a ae Y _ _ S U) ?_)
  rintro _ _ _ - ⟨rfl, rfl, rfl⟩
  refine Em Z<|Ex Z<|Ex Z<|?_
  refine ff rfl (fC (cs := (fk (Case.mk false 0 0))) rfl rfl rfl rfl (fun I => ?_))
  refine ff rfl (Sa (fk a) Z .here Z ?_)
  refine Ea Z<|fb<|fc<|fa<|EL 7 (fj p3 q r) Z (Rb2 Z)<|EL 5 (fe p4) Z (Rb1 Z)<|?_
  obtain ⟨y, af, aa, H⟩ := ix H
  refine ff rfl (Ek Tryz.call109 Z (pV p3 q r p4 y af aa _ _ V W) ?_)
  rintro _ _ _ - ⟨rfl, rfl, rfl⟩
  refine Em Z<|Ex Z<|Ex Z<|?_
  refine ff rfl (fC (cs := (fk (Case.mk false 0 0))) rfl rfl rfl rfl (fun ai => ?_))
  refine ff rfl (Sa (fk y) Z .here Z ?_)
  refine Ea Z<|fb<|fc<|?_
  refine fz (fun s d c => ∃ (E : Bool), [(0, (sv w)), (9, (Vp x)), (11, (Vp I)), (79, (.bool E))] = s ∧ K = d ∧ (.blk I 108 (fk a)) :: (.blk x 38 (fe p4)) :: G = c ∧ mS p0 a p4 E = some b) ?_ ?_
  ·refine fa<|Em Z<|Eq Z (gd rfl)<|Em Z<|?_
   refine Ee Z ?_ ?_
   ·intro e
    have e := ir e
    have H := f0 (btf e) H
    refine Ez Z<|Ez Z<|Et Z<|Em Z<|Ez Z<|Ez Z<|Ez Z<|Et Z<|Em Z<|Ez Z<|Ez Z<|Et Z<|Em Z<|Ez Z<|Ez Z<|Ez Z<|Ez Z<|Ez Z<|Et Z<|Em Z<|Ez Z<|Ez Z<|?_
    exact Ez Z<|Ez Z<|Ez Z<|Et Z<|fb<|Pu2<|Pu2<|Re2<|Re2<|Re2<|Re2<|Sd<|⟨_, by exact R4, true, rfl, rfl, rfl, H⟩
   ·intro e
    have e := iq e
    have H := ift e H
    refine Vm Z<|Vq Z (gd rfl)<|Ef Z<|Em Z<|?_
    refine Ee Z ?_ ?_
    ·intro f
     have f := ir f
     have H := f0 (btf f) H
     refine Ez Z<|Ez Z<|Ez Z<|Et Z<|Em Z<|Ez Z<|Ez Z<|Et Z<|Em Z<|Ez Z<|Ez Z<|Ez Z<|Ez Z<|Ez Z<|Et Z<|Em Z<|Ez Z<|Ez Z<|Ez Z<|Ez Z<|Ez Z<|Et Z<|?_
     exact fb<|Pu2<|Pu2<|Re2<|Re2<|Re2<|Re2<|Sd<|⟨_, by exact R4, true, rfl, rfl, rfl, H⟩
    ·intro f
     have f := iq f
     have H := ift f H
     refine VF 0 Z<|Vl (.bool a.send) Z (Rb1 Z)<|Vq Z (gd rfl)<|Ef Z<|Em Z<|?_
     refine Ee Z ?_ ?_
     ·intro g
      have g := ir g
      have H := f0 (btf g) H
      refine Ez Z<|Ez Z<|Et Z<|Em Z<|Ez Z<|Ez Z<|Ez Z<|Ez Z<|Ez Z<|Et Z<|Em Z<|Ez Z<|Ez Z<|Ez Z<|Ez Z<|Ez Z<|Et Z<|fb<|Pu2<|Pu2<|Re2<|Re2<|?_
      exact Re2<|Re2<|Sd<|⟨_, by exact R4, true, rfl, rfl, rfl, H⟩
     ·intro g
      have g := iq g
      have H := ift g H
      refine VF 0 Z<|Vl (.bool y.send) Z (Rb0 Z)<|Ef Z<|Em Z<|?_
      refine Ee Z ?_ ?_
      ·intro A
       have H := ift A H
       exact Ez Z<|Ez Z<|Ez Z<|Ez Z<|Ez Z<|Et Z<|Em Z<|Ez Z<|Ez Z<|Ez Z<|Ez Z<|Ez Z<|Et Z<|fb<|Pu2<|Pu2<|Re2<|Re2<|Re2<|Re2<|Sd<|⟨_, by exact R4, true, rfl, rfl, rfl, H⟩
      ·intro A
       have H := f0 (btf A) H
       refine VF 1 Z<|Vl (Vi a.channel) Z (Rb1 Z)<|VF 1 Z<|Vl (Vi y.channel) Z (Rb0 Z)<|Vc Z<|Ef Z<|Em Z<|?_
       refine Ee Z ?_ ?_
       ·intro h
        have h := ky (ir (h))
        have H := f0 h H
        exact Ez Z<|Ez Z<|Ez Z<|Ez Z<|Ez Z<|Et Z<|fb<|Pu2<|Pu2<|Re2<|Re2<|Re2<|Re2<|Sd<|⟨_, by exact R4, true, rfl, rfl, rfl, H⟩
       ·intro h
        have h := kz (iq (h))
        have H := ift h H
        refine Vm Z<|VF 1 Z<|Vl (Vi a.channel) Z (Rb1 Z)<|?_
        obtain ⟨Q, ab, H⟩ := bnd H
        refine hY rfl rfl rfl rfl (Ek Tryz.call107 Z (lB p0 w a.channel Q ab _ _ D) ?_)
        rintro _ _ _ - ⟨rfl, rfl, rfl⟩
        exact Vq Z (gd rfl)<|Ef Z<|fb<|Pu2<|Pu2<|Re2<|Re2<|Re2<|Re2<|Sd<|⟨_, by exact R4, (!(Q)), rfl, rfl, rfl, H⟩
  rintro _ _ _ - ⟨E, rfl, rfl, rfl, H⟩
  unfold mS at H
  refine fm rfl ?_ ?_
  ·intro B
   have H := ift B H
   refine fc<|fa<|Ea Z<|fb<|fy<|?_
   obtain N := gm H
   subst b
   refine ⟨(.inl rfl), [(.bool false)], ⟨(.bool false), _, rfl, rfl, rfl⟩, ?_⟩
   exact Re0<|Re0<|Sd<|⟨rfl, rfl, rfl⟩
  ·intro B
   have H := f0 (btf B) H
   refine ft<|fc<|fa<|Em Z<|EF 1 Z<|El (Vi a.channel) Z (Rb0 Z)<|?_
   obtain ⟨z, O, H⟩ := bnd H
   obtain ⟨al, X, R⟩ := Slr.at D O
   obtain ⟨P, rfl, ak⟩ := X
   refine Eq Z (Qi (T := fG) D O Z)<|EL 3 (fx z P) Z (Rdc.k R rfl)<|?_
   refine ff rfl (fC (cs := (fx (fL.mk 0 [] false) fA)) rfl rfl rfl rfl (fun aj => ?_))
   refine ff rfl (Sa (fx z P) Z .here Z ?_)
   refine fb ?_
   refine fz (fun s d c => ∃ (u : Bool), [(10, (.bool u))] = s ∧ K = d ∧ G = c ∧ ox u = some b) ?_ ?_
   ·refine fa<|EF 0 Z<|El (Vi z.capacity) Z (Rb0 Z)<|Ec Z<|Em Z<|?_
    refine Ee Z ?_ ?_
    ·intro t
     obtain ⟨t, H⟩ := It t H
     refine VF 2 Z<|Vl (.bool z.closed) Z (Rb0 Z)<|Vq Z (gd rfl)<|Et Z<|Em Z<|?_
     refine Ee Z ?_ ?_
     ·intro i
      have i := ir i
      have H := f0 (btf i) H
      exact VF 2 Z<|Vl (.int .u64 p4.value) Z (Rb2 Z)<|VF 2 Z<|Vl (.int .u64 a.value) Z (Rb1 Z)<|Vc Z<|Et Z<|Ea Z<|fb<|Re0<|Re0<|Re0<|Sd<|⟨_, by exact R1, (dcd (p4.value = a.value)), rfl, rfl, rfl, H⟩
     ·intro i
      have i := iq i
      have H := ift i H
      exact Ez Z<|Ez Z<|Ez Z<|Ez Z<|Ez Z<|Ef Z<|Ea Z<|fb<|Re0<|Re0<|Re0<|Sd<|⟨_, by exact R1, false, rfl, rfl, rfl, H⟩
    ·intro t
     obtain ⟨t, H⟩ := If t H
     exact Ez Z<|Ez Z<|Ez Z<|Ef Z<|Em Z<|Ez Z<|Ez Z<|Ez Z<|Ez Z<|Ez Z<|Ef Z<|Ea Z<|fb<|Re0<|Re0<|Re0<|Sd<|⟨_, by exact R1, false, rfl, rfl, rfl, H⟩
   rintro _ _ _ - ⟨u, rfl, rfl, rfl, H⟩
   unfold ox at H
   refine fy ?_
   obtain N := gm H
   subst b
   refine ⟨(.inl rfl), [(.bool u)], ⟨(.bool u), _, rfl, rfl, rfl⟩, ?_⟩
   exact Sd ⟨rfl, rfl, rfl⟩
theorem DU (p0 : ad0) (e : SV) (p1 : Op) (a : SV) (b : SV) (p2 : Result) (p3 : Op) (c : SV) (d : SV) (p4 : Result) (f : Bool) (H : sq p0 p1 p2 p3 p4 = some f) (K : Kp) (G : List Ent) (i : Slr fG K (sv e) p0) (j : Slr fV K (sv a) p1.cases) (k : Slr Ty.i64 K (sv b) p1.draws) (l : Slr fV K (sv c) p3.cases) (m : Slr Ty.i64 K (sv d) p3.draws) :
  Fc Tryz.prog 64 #[(sv e), (.agg (fj p1 a b).toArray), (.agg (fe p2).toArray), (.agg (fj p3 c d).toArray), (.agg (fe p4).toArray)] K (G) (fun v o n => v = (.bool f) ∧ K = o ∧ G = n) := by
 refine fO Tryz.func64 rfl Tryz.ntmps64 Tryz.results64 rfl ?_
 unfold sq at H
 refine fc<|fa<|?_
 refine ff rfl (fU (cs := (fj p1 a b)) rfl rfl rfl (fun s => ?_))
 refine ff rfl (fU (cs := (fe p2)) rfl rfl rfl (fun t => ?_))
 refine ff rfl (fU (cs := (fj p3 c d)) rfl rfl rfl (fun u => ?_))
 refine ff rfl (fU (cs := (fe p4)) rfl rfl rfl (fun w => ?_))
 refine Ea Z<|fb<|fc<|fa<|Em Z<|EL 7 (fj p1 a b) Z (Rb3 Z)<|EL 5 (fe p2) Z (Rb2 Z)<|EL 7 (fj p3 c d) Z (Rb1 Z)<|EL 5 (fe p4) Z (Rb0 Z)<|?_
 obtain ⟨x19, q, H⟩ := bnd H
 refine ff rfl (Ek Tryz.call104 Z (xt p0 e p1 a b p2 p3 c d p4 x19 q _ _ i j k l m) ?_)
 rintro _ _ _ - ⟨rfl, rfl, rfl⟩
 refine Em Z ?_
 refine Ee Z ?_ ?_
 ·intro g
  have H := ift g H
  refine Ez Z<|Ez Z<|Ez Z<|Ez Z<|Ez Z<|Ez Z<|Et Z<|Ea Z<|fb<|fy<|?_
  obtain p := gm H
  subst f
  refine ⟨(.inl rfl), [(.bool true)], ⟨(.bool true), _, rfl, rfl, rfl⟩, ?_⟩
  exact Re0<|Re0<|Re0<|Re0<|Sd<|⟨rfl, rfl, rfl⟩
 ·intro g
  have H := f0 (btf g) H
  refine Vm Z<|VL 7 (fj p3 c d) Z (Rb1 Z)<|VL 5 (fe p4) Z (Rb0 Z)<|VL 7 (fj p1 a b) Z (Rb3 Z)<|VL 5 (fe p2) Z (Rb2 Z)<|?_
  obtain ⟨h, r, H⟩ := bnd H
  refine hY rfl rfl rfl rfl (Ek Tryz.call104 Z (xt p0 e p3 c d p4 p1 a b p2 h r _ _ i l m j k) ?_)
  rintro _ _ _ - ⟨rfl, rfl, rfl⟩
  refine Ef Z<|Ea Z<|fb<|fy<|?_
  obtain p := gm H
  subst f
  refine ⟨(.inl rfl), [(.bool h)], ⟨(.bool h), _, rfl, rfl, rfl⟩, ?_⟩
  exact Re0<|Re0<|Re0<|Re0<|Sd<|⟨rfl, rfl, rfl⟩
theorem zn (p0 : ad0) (z : SV) (p1 : Op) (m : SV) (n : SV) (p2 : Op) (o : SV) (p : SV) (y : ae7) (H : pq p0 p1 p2 = some y) (K : Kp) (G : List Ent) (aK : Slr fG K (sv z) p0) (ao : Slr fV K (sv m) p1.cases) (ap : Slr Ty.i64 K (sv n) p1.draws) (aL : Slr fV K (sv o) p2.cases) (aM : Slr Ty.i64 K (sv p) p2.draws) :
  Fc Tryz.prog 86 #[(sv z), (.agg (fj p1 m n).toArray), (.agg (fj p2 o p).toArray)] K (G) (fun v e d => ∃ (al : SV), v = (sv al) ∧ (.tok 131 10 [(sv al)]) :: G = d ∧ Slr gv e (sv al) y) := by
 refine fO Tryz.func86 rfl Tryz.ntmps86 Tryz.results86 rfl ?_
 unfold pq at H
 refine fc<|fa<|?_
 refine ff rfl (fU (cs := (fj p1 m n)) rfl rfl rfl (fun h => ?_))
 refine ff rfl (fU (cs := (fj p2 o p)) rfl rfl rfl (fun i => ?_))
 refine Ea Z<|fb<|fc<|fa<|Ea Z<|fb<|fc<|?_
 obtain ⟨C, aZ, H⟩ := bnd H
 obtain ⟨D, a0, H⟩ := bnd H
 refine fq _ rfl (Ic Mb0 (Ic Mb1 In0))<|JL 0 7 (fj p1 m n) Z (Rb1 Z)<|JL 2 7 (fj p2 o p) Z (Rb0 Z)<|?_
 refine Ao 1 Z ?_
 refine Ek Tryz.call44 Z (kY p1 m n C aZ _ _ ao ap) ?_
 rintro _ a9 _ Y ⟨I, rfl, rfl, aU⟩
 refine ⟨(Ic Mb0 (Ic Mb1 In0)), ?_⟩
 refine Ao 3 Z ?_
 have av := aL.mono Y
 have aw := aM.mono Y
 refine Ek Tryz.call44 Z (kY p2 o p D a0 _ _ av aw) ?_
 rintro _ ba _ M ⟨J, rfl, rfl, aV⟩
 refine ⟨(Ic Mb0 (Ic Mb1 In0)), ?_⟩
 refine Ja 4 Z<|Ja 5 Z<|Ad<|?_
 refine fz (fun g e d => ∃ (L : SV) (ak : ae7), [(7, (sv L))] = g ∧ (.tok 131 10 [(sv L)]) :: G = d ∧ rA ak = some y ∧ Slr gv e (sv L) ak) ?_ ?_
 ·refine fc<|fa<|Ea Z<|fb<|fB<|?_
  refine f8 (fun aA g e d => ∃ (O : SV) (aa : ae7) (c : Int), [(0, (sv z)), (4, (Vp h)), (5, (Vp i)), (7, (sv O)), (8, (sv I)), (9, (sv J)), (10, (Vi c))] = g ∧ (.blk i 51 (fj p2 o p)) :: (.blk h 51 (fj p1 m n)) :: (.tok 131 10 [(sv O)]) :: G = d ∧ lp2 (rE p0 C D p2 p1) aA aa c = some y ∧ Slr gv e (sv O) aa) BIG ?_ ?_
  ·exact Shift.nilTok1 131 10<|Pu2<|Pu2<|Sd<|⟨_, by exact R7, fA, ([] : ae7), 0, rfl, rfl, H, (Slr.nil gv _)⟩
  rintro aA _ a5 _ F ⟨O, aa, c, rfl, rfl, H, aq⟩
  obtain ⟨bf, N, rfl, aJ, H⟩ := jF H
  unfold rE at H
  refine fc<|fc<|fa<|Em Z<|Em Z<|?_
  have ah := (aU.mono M).mono F
  refine Eq Z (ge (T := fV) ah rfl rfl)<|Ec Z<|fb<|?_
  refine fm rfl ?_ ?_
  ·intro U
   obtain ⟨U, H⟩ := It U H
   refine ft ?_
   refine fz (fun g e d => ∃ (ab : SV) (ae : ae7), [(0, (sv z)), (4, (Vp h)), (5, (Vp i)), (7, (sv ab)), (8, (sv I)), (9, (sv J)), (10, (Vi c))] = g ∧ (.blk i 51 (fj p2 o p)) :: (.blk h 51 (fj p1 m n)) :: (.tok 131 10 [(sv ab)]) :: G = d ∧ rB p0 C D c p2 p1 N ae = some y ∧ Slr gv e (sv ab) ae) ?_ ?_
   ·refine fB<|fc<|fa<|Ea Z<|fb<|fB<|?_
    refine f8 (fun aB g e d => ∃ (j : SV) (A : ae7) (f : Int), [(0, (sv z)), (4, (Vp h)), (5, (Vp i)), (7, (sv j)), (8, (sv I)), (9, (sv J)), (10, (Vi c)), (11, (Vi f))] = g ∧ (.blk i 51 (fj p2 o p)) :: (.blk h 51 (fj p1 m n)) :: (.tok 131 10 [(sv j)]) :: G = d ∧ lp2 (rD p0 C D c p2 p1 N) aB A f = some y ∧ Slr gv e (sv j) A) BIG ?_ ?_
    ·exact Pu2<|Pu2<|Pu2<|Sd<|⟨_, by exact R8, O, aa, 0, rfl, rfl, H, aq⟩
    rintro aB _ Q _ B ⟨j, A, f, rfl, rfl, H, ai⟩
    obtain ⟨bg, ad, rfl, an, H⟩ := jF H
    unfold rD at H
    refine fc<|fc<|fa<|Em Z<|Em Z<|?_
    have aj := (aV.mono F).mono B
    refine Eq Z (ge (T := fV) aj rfl rfl)<|Ec Z<|fb<|?_
    refine fm rfl ?_ ?_
    ·intro V
     obtain ⟨V, H⟩ := It V H
     refine ft<|fc<|fB<|fc<|fa<|Ea Z<|Ea Z<|fb<|?_
     refine fz (fun g e d => ∃ (a : Int), [(0, (sv z)), (4, (Vp h)), (5, (Vp i)), (7, (sv j)), (8, (sv I)), (9, (sv J)), (10, (Vi c)), (11, (Vi f)), (12, (Vi a)), (13, (Vi (-1)))] = g ∧ Q = e ∧ (.blk i 51 (fj p2 o p)) :: (.blk h 51 (fj p1 m n)) :: (.tok 131 10 [(sv j)]) :: G = d ∧ mf p0 A C D c f p2 p1 N ad a = some y) ?_ ?_
     ·refine fc<|fa<|EF 0 Z<|El (Vi p1.kind) Z (Rb1 Z)<|Ec Z<|fb<|?_
      refine fm rfl ?_ ?_
      ·intro W
       obtain ⟨W, H⟩ := It W H
       exact fa<|Em Z<|Ea Z<|fb<|Pu2<|Pu2<|Pu2<|Sd<|⟨_, by exact R10, c, rfl, rfl, rfl, H⟩
      ·intro W
       obtain ⟨W, H⟩ := If W H
       exact ft<|Pu2<|Pu2<|Pu2<|Sd<|⟨_, by exact R10, (-1), rfl, rfl, rfl, H⟩
     rintro _ _ _ - ⟨a, rfl, rfl, rfl, H⟩
     unfold mf at H
     refine fz (fun g e d => ∃ (b : Int), [(0, (sv z)), (4, (Vp h)), (5, (Vp i)), (7, (sv j)), (8, (sv I)), (9, (sv J)), (10, (Vi c)), (11, (Vi f)), (12, (Vi a)), (13, (Vi b))] = g ∧ Q = e ∧ (.blk i 51 (fj p2 o p)) :: (.blk h 51 (fj p1 m n)) :: (.tok 131 10 [(sv j)]) :: G = d ∧ me p0 A C D c f a p2 p1 N ad b = some y) ?_ ?_
     ·refine fc<|fa<|EF 0 Z<|El (Vi p2.kind) Z (Rb0 Z)<|Ec Z<|fb<|?_
      refine fm rfl ?_ ?_
      ·intro X
       obtain ⟨X, H⟩ := It X H
       exact fa<|Em Z<|Ea Z<|fb<|Pu2<|Pu2<|Pu2<|Sd<|⟨_, by exact R10, f, rfl, rfl, rfl, H⟩
      ·intro X
       obtain ⟨X, H⟩ := If X H
       exact ft<|Pu2<|Pu2<|Pu2<|Sd<|⟨_, by exact R10, (-1), rfl, rfl, rfl, H⟩
     rintro _ _ _ - ⟨b, rfl, rfl, rfl, H⟩
     unfold me at H
     refine fz (fun g e d => ∃ (R : Nat) (S : Nat) (ac : Int), [(0, (sv z)), (4, (Vp h)), (5, (Vp i)), (7, (sv j)), (8, (sv I)), (9, (sv J)), (10, (Vi c)), (11, (Vi f)), (12, (Vi a)), (13, (Vi b)), (14, (Vp R)), (15, (Vp S))] = g ∧ Q = e ∧ (.blk S 38 (fe (Result.mk 2 b ac true 0))) :: (.blk R 38 (fe (Result.mk 1 a 0 false 0))) :: (.blk i 51 (fj p2 o p)) :: (.blk h 51 (fj p1 m n)) :: (.tok 131 10 [(sv j)]) :: G = d ∧ rC p0 A C D c f a b p2 p1 N ad ac = some y) ?_ ?_
     ·obtain ⟨P, ax, H⟩ := bnd H
      refine fq _ rfl (Ic Mb0 (Ic Mb1 (Ic Mb2 In0)))<|Jm 0 Z<|Jq 1 Z (fF (cs := (fe (Result.mk 1 a 0 false 0))) rfl rfl rfl rfl rfl rfl)<|Jm 2 Z<|Jm 3 Z<|Jm 4 Z<|?_
      have ar := ah.mono B
      obtain ⟨_, rfl, aG⟩ := Slr.at ar ax
      refine Jq 5 Z (Qi (T := fV) ar ax Z)<|JF 6 2 Z<|Jl 7 (.int .u64 P.value) Z (Rdc.k aG rfl)<|Jq 8 Z (fF (cs := (fe (Result.mk 2 b P.value true 0))) rfl rfl rfl rfl rfl rfl)<|?_
      refine gU 9 10 (by kernel_rfl) ?_ ?_
      ·refine id (Jy Z ?_)
       refine fC (cs := (fe (Result.mk 0 0 0 false 0))) rfl rfl rfl rfl (fun aC => ⟨(Ic Mb1 (Ic Mb2 (Ic Mb3 In0))), ?_⟩)
       refine Ao 10 Z ?_
       refine fC (cs := (fe (Result.mk 0 0 0 false 0))) rfl rfl rfl rfl (fun aD => ⟨(Ic Mb2 (Ic Mb3 (Ic Mb4 In0))), ?_⟩)
       refine Ao 11 Z ?_
       refine Sa (fe (Result.mk 1 a 0 false 0)) Z (.there .here) Z ⟨(Ic Mb2 (Ic Mb3 (Ic Mb4 In0))), ?_⟩
       refine Ao 12 Z ?_
       refine Sa (fe (Result.mk 2 b P.value true 0)) Z .here Z ⟨(Ic Mb2 (Ic Mb3 (Ic Mb4 In0))), ?_⟩
       exact Ad<|Pu4<|Pu4<|Pu4<|Pu4<|Pu4<|Sd<|⟨_, by exact R12, aC, aD, P.value, rfl, rfl, rfl, H⟩
      ·refine id (Jy Z ?_)
       refine fC (cs := (fe (Result.mk 0 0 0 false 0))) rfl rfl rfl rfl (fun aE => ⟨(Ic Mb1 (Ic Mb2 (Ic Mb3 In0))), ?_⟩)
       refine Ao 9 Z ?_
       refine fC (cs := (fe (Result.mk 0 0 0 false 0))) rfl rfl rfl rfl (fun aF => ⟨(Ic Mb2 (Ic Mb3 (Ic Mb4 In0))), ?_⟩)
       refine Ao 11 Z ?_
       refine Sa (fe (Result.mk 1 a 0 false 0)) Z .here Z ⟨(Ic Mb2 (Ic Mb3 (Ic Mb4 In0))), ?_⟩
       refine Ao 12 Z ?_
       refine Sa (fe (Result.mk 2 b P.value true 0)) Z (.there .here) Z ⟨(Ic Mb2 (Ic Mb3 (Ic Mb4 In0))), ?_⟩
       exact Ad<|Pu4<|Pu4<|Pu4<|Pu3<|Pu4<|Sd<|⟨_, by exact R12, aF, aE, P.value, rfl, rfl, rfl, H⟩
     rintro _ _ _ - ⟨R, S, ac, rfl, rfl, rfl, H⟩
     unfold rC at H
     refine fz (fun g e d => ∃ (r : Int) (s : Int) (w : Bool) (t : Int) (u : Int) (x : Bool), [(0, (sv z)), (4, (Vp h)), (5, (Vp i)), (7, (sv j)), (8, (sv I)), (9, (sv J)), (10, (Vi c)), (11, (Vi f)), (14, (Vp R)), (15, (Vp S))] = g ∧ Q = e ∧ (.blk S 38 (fe (Result.mk r b s w 0))) :: (.blk R 38 (fe (Result.mk t a u x 0))) :: (.blk i 51 (fj p2 o p)) :: (.blk h 51 (fj p1 m n)) :: (.tok 131 10 [(sv j)]) :: G = d ∧ oz p0 A C D c f b a p2 p1 N ad r s w t u x = some y) ?_ ?_
     ·refine fc<|fa<|Em Z<|Em Z<|?_
      obtain ⟨a2, ay, H⟩ := bnd H
      have au := ah.mono B
      obtain ⟨_, rfl, aH⟩ := Slr.at au ay
      refine Eq Z (Qi (T := fV) au ay Z)<|EF 0 Z<|El (.bool a2.send) Z (Rdc.k aH rfl)<|Eq Z (gd rfl)<|fb<|?_
      refine fm rfl ?_ ?_
      ·intro E
       have E := ir E
       have H := f0 (btf E) H
       refine fa<|Em Z<|Em Z<|Em Z<|?_
       obtain ⟨af, az, H⟩ := bnd H
       obtain ⟨_, rfl, aI⟩ := Slr.at aj az
       refine Eq Z (Qi (T := fV) aj az Z)<|EF 2 Z<|El (.int .u64 af.value) Z (Rdc.k aI rfl)<|Eq Z (fF (cs := (fe (Result.mk 2 a af.value true 0))) rfl rfl rfl rfl rfl rfl)<|Em Z<|Eq Z (fF (cs := (fe (Result.mk 1 b 0 false 0))) rfl rfl rfl rfl rfl rfl)<|?_
       refine ff rfl (Sa (fe (Result.mk 2 a af.value true 0)) Z (.there .here) Z ?_)
       refine ff rfl (Sa (fe (Result.mk 1 b 0 false 0)) Z .here Z ?_)
       exact fb<|Pu4<|Pu4<|Pu4<|Pu4<|Pu4<|Sd<|⟨_, by exact R10, 1, 0, false, 2, af.value, true, rfl, rfl, rfl, H⟩
      ·intro E
       have E := iq E
       have H := ift E H
       exact ft<|Pu4<|Pu4<|Pu4<|Pu4<|Pu4<|Sd<|⟨_, by exact R10, 2, ac, true, 1, 0, false, rfl, rfl, rfl, H⟩
     rintro _ _ _ - ⟨r, s, w, t, u, x, rfl, rfl, rfl, H⟩
     unfold oz at H
     refine fc<|fa<|Em Z<|EL 7 (fj p1 m n) Z (Rb3 Z)<|EL 5 (fe (Result.mk t a u x 0)) Z (Rb1 Z)<|EL 7 (fj p2 o p) Z (Rb2 Z)<|EL 5 (fe (Result.mk r b s w 0)) Z (Rb0 Z)<|?_
     obtain ⟨a3, aX, H⟩ := bnd H
     have aO := (((aK.mono Y).mono M).mono F).mono B
     have aP := (((ao.mono Y).mono M).mono F).mono B
     have aQ := (((ap.mono Y).mono M).mono F).mono B
     have aR := ((av.mono M).mono F).mono B
     have aS := ((aw.mono M).mono F).mono B
     refine ff rfl (Ek Tryz.call64 Z (DU p0 z p1 m n (Result.mk t a u x 0) p2 o p (Result.mk r b s w 0) a3 aX _ _ aO aP aQ aR aS) ?_)
     rintro _ _ _ - ⟨rfl, rfl, rfl⟩
     refine fb ?_
     refine fm rfl ?_ ?_
     ·intro ag
      have H := ift ag H
      refine fa<|Em Z<|EL 5 (fe (Result.mk t a u x 0)) Z (Rb1 Z)<|EL 5 (fe (Result.mk r b s w 0)) Z (Rb0 Z)<|Eq Z (ly (cs := (ia (gl.mk (Result.mk t a u x 0) (Result.mk r b s w 0)))) rfl rfl rfl rfl rfl rfl)<|?_
      have am : RowR gv Q [(ia (gl.mk (Result.mk t a u x 0) (Result.mk r b s w 0)))] [(gl.mk (Result.mk t a u x 0) (Result.mk r b s w 0))] := RowR.cons rfl (RowR.nil)
      refine ff rfl (gg (T := gv) (rows := [(ia (gl.mk (Result.mk t a u x 0) (Result.mk r b s w 0)))]) (l := [(gl.mk (Result.mk t a u x 0) (Result.mk r b s w 0))]) rfl rfl rfl am rfl rfl rfl rfl rfl rfl rfl rfl (fun bh => ?_))
      obtain ⟨a4, aY, H⟩ := bnd H
      refine ff rfl (f7 (T := gv) (bytes := 80) (q := 0) rfl rfl rfl ai Mb5 rfl (SrcT.row Mb0 am rfl) aY rfl rfl rfl rfl rfl rfl rfl rfl (fun a1 a6 bc aT => ⟨_, (.there (.there (.there (.there (.there .here))))), ?_⟩))
      refine Ow.shift (Re0 (Sd ?_))
      exact Ea Z<|fb<|fa<|Em Z<|Er (wI (f + 1)) Z<|Ea Z<|fb<|Pu4<|Pu4<|Pu4<|Re3<|Re3<|Sd<|⟨_, by exact R8, _, Nat.lt_succ_self _, a1, a4, (wI (f + 1)), rfl, rfl, (an ▸ H), aT⟩
     ·intro ag
      have H := f0 (btf ag) H
      exact ft<|fa<|Em Z<|Er (wI (f + 1)) Z<|Ea Z<|fb<|Pu4<|Pu4<|Pu4<|Re3<|Re3<|Sd<|⟨_, by exact R8, _, Nat.lt_succ_self _, j, A, (wI (f + 1)), rfl, rfl, (an ▸ H), ai⟩
    ·intro V
     obtain ⟨V, H⟩ := If V H
     exact ga<|Pu2<|Pu2<|Pu2<|Sd<|⟨_, by exact R7, j, A, rfl, rfl, H, ai⟩
   rintro _ a7 _ bd ⟨ab, ae, rfl, rfl, H, aN⟩
   unfold rB at H
   exact fa<|Em Z<|Er (wI (c + 1)) Z<|Ea Z<|fb<|Pu2<|Pu2<|Pu2<|Sd<|⟨_, by exact R7, _, Nat.lt_succ_self _, ab, ae, (wI (c + 1)), rfl, rfl, (aJ ▸ H), aN⟩
  ·intro U
   obtain ⟨U, H⟩ := If U H
   exact ga<|Pu2<|Re1<|Re1<|Sd<|⟨_, by exact R1, O, aa, rfl, rfl, H, aq⟩
 rintro _ a8 _ be ⟨L, ak, rfl, rfl, H, aW⟩
 unfold rA at H
 refine fc<|fa<|Em Z<|Ea Z<|fb<|fy<|?_
 obtain bb := gm H
 subst y
 refine ⟨(.inl rfl), [(sv L)], ⟨(sv L), _, rfl, rfl, rfl⟩, ?_⟩
 exact Sd ⟨L, rfl, rfl, aW⟩
theorem B5 (p0 : ad0) (e : SV) (p1 : Op) (a : SV) (b : SV) (p2 : Op) (c : SV) (d : SV) (f : Bool) (H : yu p0 p1 p2 = some f) (K : Kp) (G : List Ent) (h : Slr fG K (sv e) p0) (i : Slr fV K (sv a) p1.cases) (j : Slr Ty.i64 K (sv b) p1.draws) (k : Slr fV K (sv c) p2.cases) (l : Slr Ty.i64 K (sv d) p2.draws) :
  Fc Tryz.prog 108 #[(sv e), (.agg (fj p1 a b).toArray), (.agg (fj p2 c d).toArray)] K (G) (fun v o g => v = (.bool f) ∧ G = g) := by
 refine fO Tryz.func108 rfl Tryz.ntmps108 Tryz.results108 rfl ?_
 unfold yu at H
 refine fc<|fa<|?_
 refine ff rfl (fU (cs := (fj p1 a b)) rfl rfl rfl (fun r => ?_))
 refine ff rfl (fU (cs := (fj p2 c d)) rfl rfl rfl (fun q => ?_))
 refine Ea Z<|fb<|fc<|fa<|Em Z<|EL 7 (fj p1 a b) Z (Rb1 Z)<|EL 7 (fj p2 c d) Z (Rb0 Z)<|?_
 obtain ⟨x11, n, H⟩ := bnd H
 refine ff rfl (Ek Tryz.call86 Z (zn p0 e p1 a b p2 c d x11 n _ _ h i j k l) ?_)
 rintro _ p _ t ⟨u, rfl, rfl, m⟩
 refine Eq Z (ge (T := gv) m rfl rfl)<|Ec Z<|Ea Z<|fb<|fy<|?_
 obtain s := gm H
 subst f
 refine ⟨(.inl rfl), [(.bool (dcd ((x11.length : Int) > 0)))], ⟨(.bool (dcd ((x11.length : Int) > 0))), _, rfl, rfl, rfl⟩, ?_⟩
 exact Re0<|Re0<|Re0<|Sd<|⟨rfl, rfl⟩
end Go.Hx
namespace Go.Hx
open Go Go.Proofs
set_option maxRecDepth 10000
set_option maxHeartbeats 1000000
theorem BX (p0 : ad6) (s : SV) (n : ae5) (H : rk p0 = some n) (K : Kp) (G : List Ent) (F : Slr f5 K (sv s) p0) :
  Fc Tryz.prog 34 #[(sv s)] K (G) (fun v i h => ∃ (t : SV), v = (sv t) ∧ (.tok 91 2 [(sv t)]) :: G = h ∧ Slr ib i (sv t) n) := by
 refine fO Tryz.func34 rfl Tryz.ntmps34 Tryz.results34 rfl ?_
 unfold rk at H
 refine fc<|fa<|Ea Z<|fb<|fc<|fa<|Ea Z<|fb<|?_
 refine fz (fun o i h => ∃ (d : SV) (r : ae5), [(3, (sv d))] = o ∧ (.tok 91 2 [(sv d)]) :: G = h ∧ vn r = some n ∧ Slr ib i (sv d) r) ?_ ?_
 ·refine fc<|fa<|Ea Z<|fb<|fB<|?_
  refine f8 (fun n273 o i h => ∃ (e : SV) (m : ae5) (c : Int), [(0, (sv s)), (3, (sv e)), (4, (Vi c))] = o ∧ (.tok 91 2 [(sv e)]) :: G = h ∧ lp2 (rj p0) n273 m c = some n ∧ Slr ib i (sv e) m) BIG ?_ ?_
  ·exact Shift.nilTok1 91 2<|Sd<|⟨_, by exact R3, fA, ([] : ae5), 0, rfl, rfl, H, (Slr.nil ib _)⟩
  rintro n273 _ A _ B ⟨e, m, c, rfl, rfl, H, p⟩
  obtain ⟨W, V, rfl, w, H⟩ := jF H
  unfold rj at H
  refine fc<|fc<|fa<|Em Z<|Em Z<|?_
  have b := F.mono B
  refine Eq Z (ge (T := f5) b rfl rfl)<|Ec Z<|fb<|?_
  refine fm rfl ?_ ?_
  ·intro j
   obtain ⟨j, H⟩ := It j H
   refine ft<|fc<|fB<|fc<|fa<|Em Z<|Em Z<|?_
   obtain ⟨N, x, H⟩ := bnd H
   obtain ⟨_, rfl, C⟩ := Slr.at b x
   refine Eq Z (Qi (T := f5) b x Z)<|EF 2 Z<|El (.bool N.ret) Z (Rdc.k C rfl)<|Eq Z (gd rfl)<|fb<|?_
   refine fm rfl ?_ ?_
   ·intro a
    have a := ir a
    have H := f0 (btf a) H
    obtain ⟨f, y, H⟩ := bnd H
    obtain ⟨g, z, H⟩ := bnd H
    obtain ⟨O, L, H⟩ := bnd H
    refine fq _ rfl In0<|Jm 0 Z<|Jm 1 Z<|Jm 2 Z<|?_
    obtain ⟨_, rfl, D⟩ := Slr.at b y
    refine Jq 3 Z (Qi (T := f5) b y Z)<|JF 4 0 Z<|Jl 5 (Vi f.thread) Z (Rdc.k D rfl)<|Jm 6 Z<|Jm 7 Z<|?_
    obtain ⟨_, rfl, E⟩ := Slr.at b z
    refine Jq 8 Z (Qi (T := f5) b z Z)<|JF 9 1 Z<|Jl 10 (Vi g.op) Z (Rdc.k E rfl)<|Jq 11 Z (ly (cs := (ii (A2Int.mk f.thread g.op))) rfl rfl rfl rfl rfl rfl)<|?_
    refine Ao 12 Z ?_
    have u : RowR ib A [(ii (A2Int.mk f.thread g.op))] [(A2Int.mk f.thread g.op)] := RowR.cons rfl (RowR.nil)
    refine gg (T := ib) (rows := [(ii (A2Int.mk f.thread g.op))]) (l := [(A2Int.mk f.thread g.op)]) rfl rfl rfl u rfl rfl rfl rfl rfl rfl rfl rfl (fun X => ⟨In0, ?_⟩)
    refine Ao 13 Z ?_
    refine f7 (T := ib) (bytes := 16) (q := 0) rfl rfl rfl p Mb1 rfl (SrcT.row Mb0 u rfl) L rfl rfl rfl rfl rfl rfl rfl rfl (fun M P S J => ⟨_, (.there .here), ⟨In0, ?_⟩⟩)
    refine Aw.shift (Re0 (Sd ⟨In0, ?_⟩))
    exact Ja 14 Z<|Ad<|fa<|Em Z<|Er (wI (c + 1)) Z<|Ea Z<|fb<|Sd<|⟨_, by exact R3, _, Nat.lt_succ_self _, M, O, (wI (c + 1)), rfl, rfl, (w ▸ H), J⟩
   ·intro a
    have a := iq a
    have H := ift a H
    exact ft<|fa<|Em Z<|Er (wI (c + 1)) Z<|Ea Z<|fb<|Sd<|⟨_, by exact R3, _, Nat.lt_succ_self _, e, m, (wI (c + 1)), rfl, rfl, (w ▸ H), p⟩
  ·intro j
   obtain ⟨j, H⟩ := If j H
   exact ga<|Sd<|⟨_, by exact R1, e, m, rfl, rfl, H, p⟩
 rintro _ Q _ U ⟨d, r, rfl, rfl, H, I⟩
 unfold vn at H
 refine fc<|fa<|Em Z<|Ea Z<|fb<|fy<|?_
 obtain R := gm H
 subst n
 refine ⟨(.inl rfl), [(sv d)], ⟨(sv d), _, rfl, rfl, rfl⟩, ?_⟩
 exact Sd ⟨d, rfl, rfl, I⟩
theorem wl (p0 : ad6) (j : SV) (p1 : Int) (p2 : Int) (p3 : Bool) (d : Int) (H : o5 p0 p1 p2 p3 = some d) (K : Kp) (G : List Ent) (c : Slr f5 K (sv j) p0) :
  Fc Tryz.prog 65 #[(sv j), (Vi p1), (Vi p2), (.bool p3)] K (G) (fun v e b => v = (Vi d) ∧ G = b) := by
 refine fO Tryz.func65 rfl Tryz.ntmps65 Tryz.results65 rfl ?_
 unfold o5 at H
 refine fc<|fa<|Ea Z<|fb<|?_
 refine fz (fun f e b => [] = f ∧ G = b ∧ vo = some d) ?_ ?_
 ·refine fc<|fa<|Ea Z<|fb<|fB<|?_
  refine f8 (fun n157 f e b => ∃ (a : Int), [(0, (sv j)), (1, (Vi p1)), (2, (Vi p2)), (3, (.bool p3)), (9, (Vi a))] = f ∧ K = e ∧ G = b ∧ lp1 (rm p0 p1 p2 p3) n157 a = some d) BIG ?_ ?_
  ·exact Sd ⟨_, by exact R5, 0, rfl, rfl, rfl, H⟩
  rintro n157 _ _ _ - ⟨a, rfl, rfl, rfl, H⟩
  obtain ⟨C, x, rfl, w, H⟩ := nr H
  unfold rm at H
  refine fc<|fc<|fa<|Em Z<|Em Z<|Eq Z (ge (T := f5) c rfl rfl)<|Ec Z<|fb<|?_
  refine fm rfl ?_ ?_
  ·intro g
   obtain ⟨g, H⟩ := It g H
   refine ft<|fc<|fB<|?_
   refine fz (fun f e b => ∃ (m : Bool), [(0, (sv j)), (1, (Vi p1)), (2, (Vi p2)), (3, (.bool p3)), (9, (Vi a)), (40, (.bool m))] = f ∧ K = e ∧ G = b ∧ oi p0 p1 p2 p3 a x m = some d) ?_ ?_
   ·refine fa<|Em Z<|Em Z<|?_
    obtain ⟨y, n, H⟩ := bnd H
    obtain ⟨_, rfl, s⟩ := Slr.at c n
    refine Eq Z (Qi (T := f5) c n Z)<|EF 0 Z<|El (Vi y.thread) Z (Rdc.k s rfl)<|Em Z<|Ec Z<|Em Z<|?_
    refine Ee Z ?_ ?_
    ·intro h
     obtain ⟨h, H⟩ := It h H
     refine Vm Z<|Vm Z<|?_
     obtain ⟨z, o, H⟩ := bnd H
     obtain ⟨_, rfl, t⟩ := Slr.at c o
     refine Vq Z (Qi (T := f5) c o Z)<|VF 1 Z<|Vl (Vi z.op) Z (Rdc.k t rfl)<|Vm Z<|Vc Z<|Et Z<|Em Z<|?_
     refine Ee Z ?_ ?_
     ·intro i
      obtain ⟨i, H⟩ := It i H
      refine Vm Z<|Vm Z<|?_
      obtain ⟨q, p, H⟩ := bnd H
      obtain ⟨_, rfl, u⟩ := Slr.at c p
      exact Vq Z (Qi (T := f5) c p Z)<|VF 2 Z<|Vl (.bool q.ret) Z (Rdc.k u rfl)<|Vm Z<|Vq Z (oK rfl rfl rfl)<|Et Z<|fb<|Sd<|⟨_, by exact R6, (q.ret == p3), rfl, rfl, rfl, H⟩
     ·intro i
      obtain ⟨i, H⟩ := If i H
      exact Ez Z<|Ez Z<|Ez Z<|Ez Z<|Ez Z<|Ez Z<|Ez Z<|Ef Z<|fb<|Sd<|⟨_, by exact R6, false, rfl, rfl, rfl, H⟩
    ·intro h
     obtain ⟨h, H⟩ := If h H
     exact Ez Z<|Ez Z<|Ez Z<|Ez Z<|Ez Z<|Ez Z<|Ez Z<|Ef Z<|Em Z<|Ez Z<|Ez Z<|Ez Z<|Ez Z<|Ez Z<|Ez Z<|Ez Z<|Ef Z<|fb<|Sd<|⟨_, by exact R6, false, rfl, rfl, rfl, H⟩
   rintro _ _ _ - ⟨m, rfl, rfl, rfl, H⟩
   unfold oi at H
   refine fm rfl ?_ ?_
   ·intro l
    have H := ift l H
    refine fc<|fa<|Em Z<|Ea Z<|fb<|fy<|?_
    obtain r := gm H
    subst d
    refine ⟨(.inl rfl), [(Vi a)], ⟨(Vi a), _, rfl, rfl, rfl⟩, ?_⟩
    exact Sd ⟨rfl, rfl⟩
   ·intro l
    have H := f0 (btf l) H
    exact ft<|fa<|Em Z<|Er (wI (a + 1)) Z<|Ea Z<|fb<|Sd<|⟨_, by exact R5, _, Nat.lt_succ_self _, (wI (a + 1)), rfl, rfl, rfl, (w ▸ H)⟩
  ·intro g
   obtain ⟨g, H⟩ := If g H
   exact ga<|Sd<|⟨[], trivial, rfl, rfl, H⟩
 rintro _ A _ B ⟨rfl, rfl, H⟩
 unfold vo at H
 refine fc<|fa<|Ea Z<|fb<|fy<|?_
 obtain r := gm H
 subst d
 refine ⟨(.inl rfl), [(Vi (-1))], ⟨(Vi (-1)), _, rfl, rfl, rfl⟩, ?_⟩
 exact Sd ⟨rfl, rfl⟩
theorem xA (p0 : ad6) (e : SV) (p1 : Int) (p2 : Int) (c : Result) (d : Int) (H : rn p0 p1 p2 = some (c, d)) (K : Kp) (G : List Ent) (f : Slr f5 K (sv e) p0) :
  Fc Tryz.prog 33 #[(sv e), (Vi p1), (Vi p2)] K (G) (fun v p i => v = (.tuple #[(.agg (fe c).toArray), (Vi d)]) ∧ G = i) := by
 refine fO Tryz.func33 rfl Tryz.ntmps33 Tryz.results33 rfl ?_
 unfold rn at H
 refine fc<|fa<|?_
 refine ff rfl (fC (cs := (fe (Result.mk 0 0 0 false 0))) rfl rfl rfl rfl (fun r => ?_))
 refine Ea Z<|fb<|fc<|fa<|Em Z<|Em Z<|Em Z<|?_
 obtain ⟨x14, o, H⟩ := bnd H
 refine ff rfl (Ek Tryz.call65 Z (wl p0 e p1 p2 true x14 o _ _ f) ?_)
 rintro _ q _ m ⟨rfl, rfl⟩
 refine Ea Z<|fb<|fc<|fc<|fa<|Em Z<|Ec Z<|fb<|?_
 refine fm rfl ?_ ?_
 ·intro a
  obtain ⟨a, H⟩ := It a H
  refine fc<|fa<|Eq Z (fF (cs := (fe (Result.mk 0 0 0 false 0))) rfl rfl rfl rfl rfl rfl)<|?_
  refine ff rfl (Sa (fe (Result.mk 0 0 0 false 0)) Z .here Z ?_)
  refine Ea Z<|fb<|fy<|?_
  obtain ⟨j, l⟩ := hX H
  subst c d
  refine ⟨(.inl rfl), [(.agg (fe (Result.mk 0 0 0 false 0)).toArray), (Vi (-1))], ⟨(.agg (fe (Result.mk 0 0 0 false 0)).toArray), _, rfl, ⟨_, 5, (fe (Result.mk 0 0 0 false 0)), rfl, rfl, rfl, rfl, ⟨rfl, Rb0 Z⟩, rfl⟩, ⟨(Vi (-1)), _, rfl, rfl, rfl⟩⟩, ?_⟩
  exact Re0<|Sd<|⟨rfl, rfl⟩
 ·intro a
  obtain ⟨a, H⟩ := If a H
  refine ft<|fc<|fa<|Em Z<|Em Z<|?_
  obtain ⟨b, h, H⟩ := bnd H
  have g := f.mono m
  obtain ⟨_, rfl, n⟩ := Slr.at g h
  refine Eq Z (Qi (T := f5) g h Z)<|EF 3 Z<|EL 5 (fe b.result) Z (Rdc.k n rfl)<|Em Z<|?_
  refine ff rfl (Sa (fe b.result) Z .here Z ?_)
  refine Ea Z<|fb<|fy<|?_
  obtain ⟨j, l⟩ := hX H
  subst c d
  refine ⟨(.inl rfl), [(.agg (fe b.result).toArray), (Vi x14)], ⟨(.agg (fe b.result).toArray), _, rfl, ⟨_, 5, (fe b.result), rfl, rfl, rfl, rfl, ⟨rfl, Rb0 Z⟩, rfl⟩, ⟨(Vi x14), _, rfl, rfl, rfl⟩⟩, ?_⟩
  exact Re0<|Sd<|⟨rfl, rfl⟩
theorem BY (p0 : ad6) (d : SV) (p1 : A2Int) (p2 : A2Int) (e : Bool) (H : rp p0 p1 p2 = some e) (K : Kp) (G : List Ent) (h : Slr f5 K (sv d) p0) :
  Fc Tryz.prog 35 #[(sv d), (.agg (ii p1).toArray), (.agg (ii p2).toArray)] K (G) (fun v g f => v = (.bool e) ∧ G = f) := by
 refine fO Tryz.func35 rfl Tryz.ntmps35 Tryz.results35 rfl ?_
 unfold rp at H
 refine fc<|fa<|?_
 refine ff rfl (fU (cs := (ii p1)) rfl rfl rfl (fun t => ?_))
 refine ff rfl (fU (cs := (ii p2)) rfl rfl rfl (fun u => ?_))
 refine Ea Z<|fb<|fc<|?_
 obtain ⟨i, p, H⟩ := bnd H
 obtain ⟨j, r, H⟩ := bnd H
 refine fq _ rfl (Ic Mb0 (Ic Mb1 In0))<|Jm 0 Z<|Jq 1 Z (iD (q := 0) (m := 0) rfl rfl rfl rfl rfl (by decide) rfl (by decide))<|Jl 2 (Vi p1.x0) Z (Rb1 Z)<|Jq 3 Z (iD (q := 1) (m := 1) rfl rfl rfl rfl rfl (by decide) rfl (by decide))<|Jl 4 (Vi p1.x1) Z (Rb1 Z)<|Jm 6 Z<|Jq 7 Z (iD (q := 0) (m := 0) rfl rfl rfl rfl rfl (by decide) rfl (by decide))<|Jl 8 (Vi p2.x0) Z (Rb0 Z)<|Jq 9 Z (iD (q := 1) (m := 1) rfl rfl rfl rfl rfl (by decide) rfl (by decide))<|Jl 10 (Vi p2.x1) Z (Rb0 Z)<|?_
 refine Ao 5 Z ?_
 refine Ek Tryz.call65 Z (wl p0 d p1.x0 p1.x1 true i p _ _ h) ?_
 rintro _ s _ n ⟨rfl, rfl⟩
 refine ⟨(Ic Mb0 (Ic Mb1 In0)), ?_⟩
 refine Ao 11 Z ?_
 have o := h.mono n
 refine Ek Tryz.call65 Z (wl p0 d p2.x0 p2.x1 false j r _ _ o) ?_
 rintro _ k _ x ⟨rfl, rfl⟩
 refine ⟨(Ic Mb0 (Ic Mb1 In0)), ?_⟩
 refine Ja 12 Z<|Ja 13 Z<|Ad<|?_
 refine fz (fun l g f => ∃ (c : Bool), [(6, (.bool c))] = l ∧ k = g ∧ G = f ∧ oj c = some e) ?_ ?_
 ·refine fa<|Em Z<|Ec Z<|Em Z<|?_
  refine Ee Z ?_ ?_
  ·intro a
   obtain ⟨a, H⟩ := It a H
   refine Vm Z<|Vc Z<|Et Z<|Em Z<|?_
   refine Ee Z ?_ ?_
   ·intro b
    obtain ⟨b, H⟩ := It b H
    exact Vm Z<|Vm Z<|Vc Z<|Et Z<|Ea Z<|fb<|Re0<|Re0<|Sd<|⟨_, by exact R1, (dcd (i < j)), rfl, rfl, rfl, H⟩
   ·intro b
    obtain ⟨b, H⟩ := If b H
    exact Ez Z<|Ez Z<|Ez Z<|Ef Z<|Ea Z<|fb<|Re0<|Re0<|Sd<|⟨_, by exact R1, false, rfl, rfl, rfl, H⟩
  ·intro a
   obtain ⟨a, H⟩ := If a H
   exact Ez Z<|Ez Z<|Ef Z<|Em Z<|Ez Z<|Ez Z<|Ez Z<|Ef Z<|Ea Z<|fb<|Re0<|Re0<|Sd<|⟨_, by exact R1, false, rfl, rfl, rfl, H⟩
 rintro _ _ _ - ⟨c, rfl, rfl, rfl, H⟩
 unfold oj at H
 refine fy ?_
 obtain w := gm H
 subst e
 refine ⟨(.inl rfl), [(.bool c)], ⟨(.bool c), _, rfl, rfl, rfl⟩, ?_⟩
 exact Sd ⟨rfl, rfl⟩
theorem BZ (p0 : ae3) (f : SV) (p1 : ad6) (b : SV) (p2 : Bool) (p3 : Bool) (y : ae3) (z : ad6) (A : ae5) (B : af4) (C : ae0) (D : ad5) (E : Bool) (F : Bool) (H : rq p0 p1 p2 p3 = some (y, z, A, B, C, D, E, F)) (K : Kp) (G : List Ent) (bv : Slr (Ty.sl gK) K (sv f) p0) (aa : Slr f5 K (sv b) p1) :
  Fc Tryz.prog 25 #[(sv f), (sv b), (.bool p2), (.bool p3)] K (G) (fun v c g => ∃ (aR : Nat) (bc : SV) (bd : SV) (aK : SV) (aL : SV) (aM : SV) (aN : SV), v = (Vp aR) ∧ (.blk aR 76 [(sv bc), (sv bd), (sv aK), (sv aL), (sv aM), (sv aN), (.bool E), (.bool F), (sv fA)]) :: (.tok 91 2 [(sv aK)]) :: (.tok 71 1 [(sv aL)]) :: (.tok 4 1 [(sv aM)]) :: (.tok 38 5 [(sv aN)]) :: G = g ∧ Slr (Ty.sl gK) c (sv bc) y ∧ Slr f5 c (sv bd) z ∧ Slr ib c (sv aK) A ∧ Slr (Ty.sl Ty.bool) c (sv aL) B ∧ Slr Ty.bool c (sv aM) C ∧ Slr fN c (sv aN) D) := by
 refine fO Tryz.func25 rfl Tryz.ntmps25 Tryz.results25 rfl ?_
 unfold rq at H
 refine fc<|fa<|Ea Z<|fb<|fc<|fa<|Em Z<|Em Z<|Em Z<|?_
 obtain ⟨M, b0, H⟩ := bnd H
 refine ff rfl (Ek Tryz.call34 Z (BX p1 b M b0 _ _ aa) ?_)
 rintro _ cg _ Y ⟨a, rfl, rfl, a2⟩
 refine Em Z<|Em Z<|Eq Z (fF (cs := [(sv f), (sv b), (sv a), (sv fA), (sv fA), (sv fA), (.bool p2), (.bool p3), (sv fA)]) rfl rfl rfl rfl rfl rfl)<|?_
 refine ff rfl (fU (cs := [(sv f), (sv b), (sv a), (sv fA), (sv fA), (sv fA), (.bool p2), (.bool p3), (sv fA)]) rfl rfl rfl (fun d => ?_))
 refine Ea Z<|fb<|?_
 refine fz (fun j c g => ∃ (ak : SV) (aD : af4) (al : SV) (aE : ae0) (am : SV) (aF : ad5), [(9, (Vp d))] = j ∧ (.blk d 76 [(sv f), (sv b), (sv a), (sv ak), (sv al), (sv am), (.bool p2), (.bool p3), (sv fA)]) :: (.tok 71 1 [(sv ak)]) :: (.tok 4 1 [(sv al)]) :: (.tok 38 5 [(sv am)]) :: (.tok 91 2 [(sv a)]) :: G = g ∧ vp p0 p1 M p2 p3 aD aE aF = some (y, z, A, B, C, D, E, F) ∧ Slr (Ty.sl Ty.bool) c (sv ak) aD ∧ Slr Ty.bool c (sv al) aE ∧ Slr fN c (sv am) aF) ?_ ?_
 ·refine fc<|fa<|Ea Z<|fb<|fB<|?_
  refine f8 (fun ba j c g => ∃ (h : Int) (e : SV) (J : af4) (L : SV) (ad : ae0) (w : SV) (ae : ad5), [(1, (sv b)), (9, (Vp d)), (10, (Vi h))] = j ∧ (.blk d 76 [(sv f), (sv b), (sv a), (sv e), (sv L), (sv w), (.bool p2), (.bool p3), (sv fA)]) :: (.tok 71 1 [(sv e)]) :: (.tok 4 1 [(sv L)]) :: (.tok 38 5 [(sv w)]) :: (.tok 91 2 [(sv a)]) :: G = g ∧ lp4 (vw p1 p0 M p2 p3) ba h J ad ae = some (y, z, A, B, C, D, E, F) ∧ Slr (Ty.sl Ty.bool) c (sv e) J ∧ Slr Ty.bool c (sv L) ad ∧ Slr fN c (sv w) ae) BIG ?_ ?_
  ·exact Shift.nilTok1 71 1<|Shift.nilTok1 4 1<|Shift.nilTok1 38 5<|Pu4<|Pu1<|Pu2<|Pu3<|Pu4<|Sd<|⟨_, by exact R3, 0, fA, ([] : af4), fA, ([] : ae0), fA, ([] : ad5), rfl, rfl, H, (Slr.nil (Ty.sl Ty.bool) _), (Slr.nil Ty.bool _), (Slr.nil fN _)⟩
  rintro ba _ b4 _ an ⟨h, e, J, L, ad, w, ae, rfl, rfl, H, aZ, a0, aC⟩
  obtain ⟨cy, ac, rfl, bt, H⟩ := lps4 H
  unfold vw at H
  refine fc<|fc<|fa<|Em Z<|Em Z<|Eq Z (fD rfl)<|EF 2 Z<|El (sv a) Z (Rb0 Z)<|?_
  have R := a2.mono an
  refine Eq Z (ge (T := ib) R rfl rfl)<|Ec Z<|fb<|?_
  refine fm rfl ?_ ?_
  ·intro V
   obtain ⟨V, H⟩ := It V H
   refine ft ?_
   refine fz (fun j c g => ∃ (ah : SV) (aq : af4) (ai : SV) (ar : ae0) (aj : SV) (au : ad5), [(1, (sv b)), (9, (Vp d)), (10, (Vi h))] = j ∧ (.blk d 76 [(sv f), (sv b), (sv a), (sv ah), (sv ai), (sv aj), (.bool p2), (.bool p3), (sv fA)]) :: (.tok 71 1 [(sv ah)]) :: (.tok 4 1 [(sv ai)]) :: (.tok 38 5 [(sv aj)]) :: (.tok 91 2 [(sv a)]) :: G = g ∧ vq p1 h p0 M p2 p3 ac aq ar au = some (y, z, A, B, C, D, E, F) ∧ Slr (Ty.sl Ty.bool) c (sv ah) aq ∧ Slr Ty.bool c (sv ai) ar ∧ Slr fN c (sv aj) au) ?_ ?_
   ·refine fB ?_
    refine fz (fun j c g => ∃ (ax : Nat) (N : Int) (n : Int) (o : Int) (p : Int) (t : Bool) (s : Int), [(1, (sv b)), (9, (Vp d)), (10, (Vi h)), (11, (Vp ax)), (12, (Vi N))] = j ∧ (.blk ax 38 (fe (Result.mk n o p t s))) :: (.blk d 76 [(sv f), (sv b), (sv a), (sv e), (sv L), (sv w), (.bool p2), (.bool p3), (sv fA)]) :: (.tok 71 1 [(sv e)]) :: (.tok 4 1 [(sv L)]) :: (.tok 38 5 [(sv w)]) :: (.tok 91 2 [(sv a)]) :: G = g ∧ vv p1 h p0 M J ad ae p2 p3 ac N n o p t s = some (y, z, A, B, C, D, E, F)) ?_ ?_
    ·obtain ⟨aO, a3, H⟩ := bnd H
     obtain ⟨aP, a4, H⟩ := bnd H
     obtain ⟨i, av, a5, H⟩ := ix H
     refine fq _ rfl (Ic Mb0 (Ic Mb1 (Ic Mb2 (Ic Mb3 (Ic Mb4 In0)))))<|Jm 0 Z<|Jm 1 Z<|Jq 2 Z (fD rfl)<|JF 3 2 Z<|Jl 4 (sv a) Z (Rb0 Z)<|Jm 5 Z<|?_
     obtain ⟨_, rfl, bp⟩ := Slr.at R a3
     refine Jq 6 Z (Qi (T := ib) R a3 Z)<|Jq 7 Z (iD (q := 0) (m := 0) rfl rfl rfl rfl rfl (by decide) rfl (by decide))<|Jl 8 (Vi aO.x0) Z (Rdc.k bp rfl)<|Jm 9 Z<|Jq 10 Z (fD rfl)<|JF 11 2 Z<|Jl 12 (sv a) Z (Rb0 Z)<|Jm 13 Z<|?_
     obtain ⟨_, rfl, bq⟩ := Slr.at R a4
     refine Jq 14 Z (Qi (T := ib) R a4 Z)<|Jq 15 Z (iD (q := 1) (m := 1) rfl rfl rfl rfl rfl (by decide) rfl (by decide))<|Jl 16 (Vi aP.x1) Z (Rdc.k bq rfl)<|?_
     refine gU 17 21 (by kernel_rfl) ?_ ?_
     ·refine id (Jy Z ?_)
      have bB := (aa.mono Y).mono an
      refine Ek Tryz.call33 Z (xA p1 b aO.x0 aP.x1 i av a5 _ _ bB) ?_
      rintro _ b5 _ cq ⟨rfl, rfl⟩
      refine ⟨(Ic Mb0 (Ic Mb1 (Ic Mb2 (Ic Mb3 (Ic Mb4 In0))))), ?_⟩
      refine Jm 18 Z<|Jx 19 Z<|Jx 20 Z<|?_
      refine Ao 21 Z ?_
      refine fC (cs := (fe (Result.mk 0 0 0 false 0))) rfl rfl rfl rfl (fun bj => ⟨(Ic Mb1 (Ic Mb2 (Ic Mb3 (Ic Mb4 (Ic Mb5 In0))))), ?_⟩)
      refine Ao 22 Z ?_
      refine Sa (fe i) Z .here Z ⟨(Ic Mb1 (Ic Mb2 (Ic Mb3 (Ic Mb4 (Ic Mb5 In0))))), ?_⟩
      exact Ja 23 Z<|Ad<|Pu5<|Pu5<|Pu5<|Pu5<|Pu5<|Pu5<|Sd<|⟨_, by exact R5, bj, av, i.kind, i.case_, i.value, i.ok, i.number, rfl, rfl, H⟩
     ·refine id (Jy Z ?_)
      refine fC (cs := (fe (Result.mk 0 0 0 false 0))) rfl rfl rfl rfl (fun bk => ⟨(Ic Mb1 (Ic Mb2 (Ic Mb3 (Ic Mb4 (Ic Mb5 In0))))), ?_⟩)
      refine Ao 17 Z ?_
      have bC := (aa.mono Y).mono an
      refine Ek Tryz.call33 Z (xA p1 b aO.x0 aP.x1 i av a5 _ _ bC) ?_
      rintro _ b6 _ cr ⟨rfl, rfl⟩
      refine ⟨(Ic Mb1 (Ic Mb2 (Ic Mb3 (Ic Mb4 (Ic Mb5 In0))))), ?_⟩
      refine Jm 18 Z<|Jx 19 Z<|Jx 20 Z<|?_
      refine Ao 22 Z ?_
      refine Sa (fe i) Z .here Z ⟨(Ic Mb1 (Ic Mb2 (Ic Mb3 (Ic Mb4 (Ic Mb5 In0))))), ?_⟩
      exact Ja 23 Z<|Ad<|Pu5<|Pu5<|Pu5<|Pu5<|Pu5<|Pu5<|Sd<|⟨_, by exact R5, bk, av, i.kind, i.case_, i.value, i.ok, i.number, rfl, rfl, H⟩
    rintro _ bh _ Q ⟨ax, N, n, o, p, t, s, rfl, rfl, H⟩
    unfold vv at H
    refine fc<|fa<|Em Z<|Em Z<|Eq Z (fD rfl)<|EF 4 Z<|El (sv L) Z (Rb1 Z)<|Em Z<|Ec Z<|?_
    have aU : RowR Ty.bool bh [[(.bool (dcd (N ≥ 0)))]] [dcd (N ≥ 0)] := RowR.cons rfl (RowR.nil)
    refine ff rfl (gg (T := Ty.bool) (rows := [[(.bool (dcd (N ≥ 0)))]]) (l := [dcd (N ≥ 0)]) rfl rfl rfl aU rfl rfl rfl rfl rfl rfl rfl rfl (fun cB => ?_))
    obtain ⟨aw, bW, H⟩ := bnd H
    have bE := a0.mono Q
    refine ff rfl (f7 (T := Ty.bool) (bytes := 1) (q := 0) rfl rfl rfl bE Mb4 rfl (SrcT.row Mb0 aU rfl) bW rfl rfl rfl rfl rfl rfl rfl rfl (fun u aQ X bD => ⟨_, (.there (.there (.there (.there .here)))), ?_⟩))
    refine Ow.shift (Re0 (Sd ?_))
    refine Eq Z (fD rfl)<|EF 4 Z<|?_
    refine ff rfl (So [(sv u)] [(sv f), (sv b), (sv a), (sv e), (sv u), (sv w), (.bool p2), (.bool p3), (sv fA)] Z (.there .here) Z ?_)
    refine fb ?_
    refine fz (fun j c g => ∃ (x : SV) (S : ad5), [(1, (sv b)), (9, (Vp d)), (10, (Vi h))] = j ∧ (.blk d 76 [(sv f), (sv b), (sv a), (sv e), (sv u), (sv x), (.bool p2), (.bool p3), (sv fA)]) :: (.tok 38 5 [(sv x)]) :: (.tok 71 1 [(sv e)]) :: (.tok 4 1 [(sv u)]) :: (.tok 91 2 [(sv a)]) :: G = g ∧ vu p1 h p0 M J aw p2 p3 ac S = some (y, z, A, B, C, D, E, F) ∧ Slr fN c (sv x) S) ?_ ?_
    ·obtain ⟨be, a6, H⟩ := bnd H
     refine fq _ rfl (Ic Mb0 (Ic Mb2 (Ic Mb3 (Ic Mb5 In0))))<|Jm 0 Z<|Jm 1 Z<|Jq 2 Z (fD rfl)<|JF 3 5 Z<|JL 5 5 (fe (Result.mk n o p t s)) Z (Rb0 Z)<|?_
     refine gU 4 6 (by kernel_rfl) ?_ ?_
     ·refine id (Jyq Z (gn (v := (sv w)) rfl rfl rfl (Rb1 Z)) ⟨(Ic Mb0 (Ic Mb2 (Ic Mb3 (Ic Mb5 In0)))), ?_⟩)
      refine Ao 6 Z ?_
      have aV : RowR fN aQ [(fe (Result.mk n o p t s))] [(Result.mk n o p t s)] := RowR.cons rfl (RowR.nil)
      refine gg (T := fN) (rows := [(fe (Result.mk n o p t s))]) (l := [(Result.mk n o p t s)]) rfl rfl rfl aV rfl rfl rfl rfl rfl rfl rfl rfl (fun cC => ⟨(Ic Mb1 (Ic Mb3 (Ic Mb4 (Ic Mb6 In0)))), ?_⟩)
      refine Ao 7 Z ?_
      have bH := (aC.mono Q).mono X
      refine f7 (T := fN) (bytes := 40) (q := 0) rfl rfl rfl bH Mb5 rfl (SrcT.row Mb0 aV rfl) a6 rfl rfl rfl rfl rfl rfl rfl rfl (fun aH b7 ct bG => ⟨_, (.there (.there (.there (.there (.there .here))))), ⟨(Ic Mb1 (Ic Mb3 (Ic Mb4 (Ic Mb6 In0)))), ?_⟩⟩)
      refine Aw.shift (Re0 (Sd ⟨(Ic Mb0 (Ic Mb2 (Ic Mb3 (Ic Mb5 In0)))), ?_⟩))
      refine Jq 8 Z (fD rfl)<|JF 9 5 Z<|?_
      refine Ao 10 Z ?_
      refine So [(sv aH)] [(sv f), (sv b), (sv a), (sv e), (sv u), (sv aH), (.bool p2), (.bool p3), (sv fA)] Z (.there .here) Z ⟨(Ic Mb0 (Ic Mb2 (Ic Mb3 (Ic Mb5 In0)))), ?_⟩
      exact Ad<|Pu5<|Pu4<|Pu4<|Pu5<|Pu5<|Re5<|Sd<|⟨_, by exact R3, aH, be, rfl, rfl, H, bG⟩
     ·refine id (Jy Z ?_)
      have aW : RowR fN aQ [(fe (Result.mk n o p t s))] [(Result.mk n o p t s)] := RowR.cons rfl (RowR.nil)
      refine gg (T := fN) (rows := [(fe (Result.mk n o p t s))]) (l := [(Result.mk n o p t s)]) rfl rfl rfl aW rfl rfl rfl rfl rfl rfl rfl rfl (fun cD => ⟨(Ic Mb1 (Ic Mb3 (Ic Mb4 (Ic Mb6 In0)))), ?_⟩)
      refine gx 4 (by kernel_rfl) (Jyq Z (gn (v := (sv w)) rfl rfl rfl (Rb2 Z)) ⟨(Ic Mb1 (Ic Mb3 (Ic Mb4 (Ic Mb6 In0)))), ?_⟩)
      refine Ao 7 Z ?_
      have bJ := (aC.mono Q).mono X
      refine f7 (T := fN) (bytes := 40) (q := 0) rfl rfl rfl bJ Mb5 rfl (SrcT.row Mb0 aW rfl) a6 rfl rfl rfl rfl rfl rfl rfl rfl (fun aI b8 cu bI => ⟨_, (.there (.there (.there (.there (.there .here))))), ⟨(Ic Mb1 (Ic Mb3 (Ic Mb4 (Ic Mb6 In0)))), ?_⟩⟩)
      refine Aw.shift (Re0 (Sd ⟨(Ic Mb0 (Ic Mb2 (Ic Mb3 (Ic Mb5 In0)))), ?_⟩))
      refine Jq 8 Z (fD rfl)<|JF 9 5 Z<|?_
      refine Ao 10 Z ?_
      refine So [(sv aI)] [(sv f), (sv b), (sv a), (sv e), (sv u), (sv aI), (.bool p2), (.bool p3), (sv fA)] Z (.there .here) Z ⟨(Ic Mb0 (Ic Mb2 (Ic Mb3 (Ic Mb5 In0)))), ?_⟩
      exact Ad<|Pu5<|Pu4<|Pu4<|Pu5<|Pu5<|Re5<|Sd<|⟨_, by exact R3, aI, be, rfl, rfl, H, bI⟩
    rintro _ b9 _ ao ⟨x, S, rfl, rfl, H, bF⟩
    unfold vu at H
    refine fc<|fa<|Em Z<|Eq Z (fD rfl)<|EF 2 Z<|El (sv a) Z (Rb0 Z)<|?_
    have a1 := ((R.mono Q).mono X).mono ao
    refine Eq Z (ge (T := ib) a1 rfl rfl) ?_
    obtain ⟨b2, bX, H⟩ := bnd H
    refine ff rfl (jv (T := Ty.bool) (r := [(.bool false)]) rfl rfl rfl bX rfl rfl rfl rfl rfl rfl rfl rfl rfl rfl (fun O b1 bm cw => ?_))
    refine Ea Z<|fb<|?_
    refine fz (fun j c g => ∃ (af : ae0) (aG : List (List Value)), [(1, (sv b)), (9, (Vp d)), (10, (Vi h)), (13, (sv O))] = j ∧ (.blk d 76 [(sv f), (sv b), (sv a), (sv e), (sv u), (sv x), (.bool p2), (.bool p3), (sv fA)]) :: (.row (sv O) 4 1 aG.flatten) :: (.tok 38 5 [(sv x)]) :: (.tok 71 1 [(sv e)]) :: (.tok 4 1 [(sv u)]) :: (.tok 91 2 [(sv a)]) :: G = g ∧ vr p1 h p0 M J aw S p2 p3 ac af = some (y, z, A, B, C, D, E, F) ∧ RowR Ty.bool c aG af) ?_ ?_
    ·refine fc<|fa<|Ea Z<|fb<|fB<|?_
     refine f8 (fun bb j c g => ∃ (U : ae0) (ag : List (List Value)) (I : Int), [(1, (sv b)), (9, (Vp d)), (10, (Vi h)), (13, (sv O)), (14, (Vi I))] = j ∧ (.blk d 76 [(sv f), (sv b), (sv a), (sv e), (sv u), (sv x), (.bool p2), (.bool p3), (sv fA)]) :: (.row (sv O) 4 1 ag.flatten) :: (.tok 38 5 [(sv x)]) :: (.tok 71 1 [(sv e)]) :: (.tok 4 1 [(sv u)]) :: (.tok 91 2 [(sv a)]) :: G = g ∧ lp2 (vt p1 h p0 M J aw S p2 p3 ac) bb U I = some (y, z, A, B, C, D, E, F) ∧ RowR Ty.bool c ag U) BIG ?_ ?_
     ·exact Pu5<|Pu5<|Pu5<|Pu5<|Pu4<|Pu5<|Sd<|⟨_, by exact R5, b2, b1, 0, rfl, rfl, H, bm⟩
     rintro bb _ ca _ aS ⟨U, ag, I, rfl, rfl, H, aX⟩
     obtain ⟨cz, cx, rfl, bu, H⟩ := jF H
     unfold vt at H
     refine fc<|fc<|fa<|Em Z<|Em Z<|Eq Z (fD rfl)<|EF 2 Z<|El (sv a) Z (Rb0 Z)<|?_
     have ab := a1.mono aS
     refine Eq Z (ge (T := ib) ab rfl rfl)<|Ec Z<|fb<|?_
     refine fm rfl ?_ ?_
     ·intro W
      obtain ⟨W, H⟩ := It W H
      refine ft<|fc<|fB<|?_
      obtain ⟨bf, a7, H⟩ := bnd H
      obtain ⟨bg, a8, H⟩ := bnd H
      obtain ⟨P, bY, H⟩ := bnd H
      obtain ⟨cF, a9, H⟩ := bnd H
      refine fq _ rfl (Ic Mb0 (Ic Mb2 (Ic Mb3 (Ic Mb4 (Ic Mb5 In0)))))<|Jm 0 Z<|Jm 1 Z<|Jm 2 Z<|Jm 3 Z<|Jq 4 Z (fD rfl)<|JF 5 2 Z<|Jl 6 (sv a) Z (Rb0 Z)<|Jm 7 Z<|?_
      obtain ⟨_, rfl, br⟩ := Slr.at ab a7
      refine Jq 8 Z (Qi (T := ib) ab a7 Z)<|JL 9 2 (ii bf) Z (Rdc.k br rfl)<|Jm 10 Z<|Jq 11 Z (fD rfl)<|JF 12 2 Z<|Jl 13 (sv a) Z (Rb0 Z)<|Jm 14 Z<|?_
      obtain ⟨_, rfl, bs⟩ := Slr.at ab a8
      refine Jq 15 Z (Qi (T := ib) ab a8 Z)<|JL 16 2 (ii bg) Z (Rdc.k bs rfl)<|?_
      refine Ao 17 Z ?_
      have bK := (((((aa.mono Y).mono an).mono Q).mono X).mono ao).mono aS
      refine Ek Tryz.call35 Z (BY p1 b bf bg P bY _ _ bK) ?_
      rintro _ cb _ bl ⟨rfl, rfl⟩
      refine ⟨(Ic Mb0 (Ic Mb2 (Ic Mb3 (Ic Mb4 (Ic Mb5 In0))))), ?_⟩
      have ap := aX.mono bl
      obtain ⟨cA, aB, bw⟩ := RowR.at ap a9
      obtain rfl := bw
      refine gx 18 (by kernel_rfl) (Jyq Z (gy (T := Ty.bool) Mb1 ap aB (fK a9).1 rfl rfl rfl rfl rfl) ⟨(Ic Mb0 (Ic Mb2 (Ic Mb3 (Ic Mb4 (Ic Mb5 In0))))), ?_⟩)
      refine Ao 19 Z ?_
      refine gV (T := Ty.bool) (vs := [(.bool P)]) (r' := [(.bool P)]) (l' := (f6 U I P)) rfl rfl rfl rfl rfl (.there .here) ap aB rfl rfl rfl (RowR.set I ap rfl) (fun bo => ⟨(Ic Mb0 (Ic Mb2 (Ic Mb3 (Ic Mb4 (Ic Mb5 In0))))), ?_⟩)
      have cp := iV aB (v := [(.bool P)])
      exact Ad<|fa<|Em Z<|Er (wI (I + 1)) Z<|Ea Z<|fb<|Pu5<|Pu5<|Pu5<|Pu5<|Pu5<|Pu5<|Sd<|⟨_, by exact R5, _, Nat.lt_succ_self _, (f6 U I P), (ag.set I.toNat [(.bool P)]), (wI (I + 1)), rfl, rfl, (bu ▸ H), bo⟩
     ·intro W
      obtain ⟨W, H⟩ := If W H
      exact ga<|Pu5<|Pu5<|Pu5<|Pu5<|Pu5<|Pu5<|Sd<|⟨_, by exact R4, U, ag, rfl, rfl, H, aX⟩
    rintro _ cc _ ay ⟨af, aG, rfl, rfl, H, bn⟩
    unfold vr at H
    refine fa<|Em Z<|Em Z<|Eq Z (fD rfl)<|EF 3 Z<|El (sv e) Z (Rb0 Z)<|Em Z<|?_
    refine Ow.shift (Shift.settle (T := Ty.bool) (.there .here) bn rfl (fun bi az bL => Sd ?_))
    have aY : RowR (Ty.sl Ty.bool) bi [[(sv O)]] [af] := RowR.cons ⟨O, rfl, bL⟩ (RowR.nil)
    refine ff rfl (gg (T := (Ty.sl Ty.bool)) (rows := [[(sv O)]]) (l := [af]) rfl rfl rfl aY rfl rfl rfl rfl rfl rfl rfl rfl (fun cE => ?_))
    obtain ⟨b3, bZ, H⟩ := bnd H
    have bN := ((((aZ.mono Q).mono X).mono ao).mono ay).mono az
    refine ff rfl (f7 (T := (Ty.sl Ty.bool)) (bytes := 24) (q := 0) rfl rfl rfl bN Mb4 rfl (SrcT.row Mb0 aY rfl) bZ rfl rfl rfl rfl rfl rfl rfl rfl (fun aJ cd aT bM => ⟨_, (.there (.there (.there (.there .here)))), ?_⟩))
    refine Ow.shift (Re0 (Sd ?_))
    refine Eq Z (fD rfl)<|EF 3 Z<|?_
    refine ff rfl (So [(sv aJ)] [(sv f), (sv b), (sv a), (sv aJ), (sv u), (sv x), (.bool p2), (.bool p3), (sv fA)] Z .here Z ?_)
    refine fb<|Pu5<|Pu3<|Pu5<|Pu5<|Pu4<|Re5<|?_
    have bO := (((bD.mono ao).mono ay).mono az).mono aT
    have bP := ((bF.mono ay).mono az).mono aT
    exact Sd ⟨_, by exact R3, aJ, b3, u, aw, x, S, rfl, rfl, H, bM, bO, bP⟩
   rintro _ ce _ cv ⟨ah, aq, ai, ar, aj, au, rfl, rfl, H, bx, bz, bA⟩
   unfold vq at H
   exact fa<|Em Z<|Er (wI (h + 1)) Z<|Ea Z<|fb<|Pu4<|Pu4<|Pu4<|Pu4<|Pu4<|Sd<|⟨_, by exact R3, _, Nat.lt_succ_self _, (wI (h + 1)), ah, aq, ai, ar, aj, au, rfl, rfl, (bt ▸ H), bx, bz, bA⟩
  ·intro V
   obtain ⟨V, H⟩ := If V H
   exact ga<|Pu4<|Pu4<|Pu4<|Pu4<|Pu4<|Sd<|⟨_, by exact R1, e, J, L, ad, w, ae, rfl, rfl, H, aZ, a0, aC⟩
 rintro _ cf _ aA ⟨ak, aD, al, aE, am, aF, rfl, rfl, H, bT, bU, bV⟩
 unfold vp at H
 refine fc<|fa<|Em Z<|Ea Z<|fb<|fy<|?_
 obtain ⟨ch, ci, cj, ck, cl, cm, cn, co⟩ := inj8 H
 subst y z A B C D E F
 refine ⟨(.inl rfl), [(Vp d)], ⟨(Vp d), _, rfl, rfl, rfl⟩, ?_⟩
 refine Pu3<|Pu3<|Pu3<|Pu4<|Pu4<|?_
 have bQ := (bv.mono Y).mono aA
 have bR := (aa.mono Y).mono aA
 have bS := a2.mono aA
 exact Sd ⟨d, f, b, a, ak, al, am, rfl, rfl, bQ, bR, bS, bT, bU, bV⟩
theorem m8 (j : Nat) (F : ae3) (g : SV) (E : ad6) (s : SV) (D : ae5) (c : SV) (C : af4) (r : SV) (B : ae0) (p : SV) (I : ad5) (t : SV) (l : Bool) (n : Bool) (J : ad8) (h : SV) (o : List (List Value)) (p1 : Int) (e : Op) (H : mP F E D C B I l n J p1 = some e) (K : Kp) (G : List Ent) (u : Slr (Ty.sl gK) K (sv g) F) (af : Slr f5 K (sv s) E) (f : Slr ib K (sv c) D) (ae : Slr (Ty.sl Ty.bool) K (sv r) C) (ad : Slr Ty.bool K (sv p) B) (ag : Slr fN K (sv t) I) (ah : RowR Ty.str K o J) :
  Fc Tryz.prog 52 #[(Vp j), (Vi p1)] K ((.blk j 76 [(sv g), (sv s), (sv c), (sv r), (sv p), (sv t), (.bool l), (.bool n), (sv h)]) :: (.row (sv h) 9 1 o.flatten) :: G) (fun v i N => ∃ (L : SV) (M : SV), v = (.agg (fj e L M).toArray) ∧ K = i ∧ (.blk j 76 [(sv g), (sv s), (sv c), (sv r), (sv p), (sv t), (.bool l), (.bool n), (sv h)]) :: (.row (sv h) 9 1 o.flatten) :: G = N ∧ Slr fV i (sv L) e.cases ∧ Slr Ty.i64 i (sv M) e.draws) := by
 refine fO Tryz.func52 rfl Tryz.ntmps52 Tryz.results52 rfl ?_
 unfold mP at H
 refine fc<|fa<|?_
 refine ff rfl (fC (cs := (fj (Op.mk 0 0 0 0 0 [] []) fA fA)) rfl rfl rfl rfl (fun ab => ?_))
 refine fb<|fc<|?_
 obtain ⟨Y, x, H⟩ := bnd H
 obtain ⟨ak, y, H⟩ := bnd H
 obtain ⟨aa, z, H⟩ := bnd H
 obtain ⟨d, A, H⟩ := bnd H
 refine fq _ rfl (Ic Mb1 (Ic Mb2 In0))<|Jm 0 Z<|Jq 1 Z (fD rfl)<|JF 2 0 Z<|Jl 3 (sv g) Z (Rb0 Z)<|Jm 4 Z<|Jq 5 Z (fD rfl)<|JF 6 2 Z<|Jl 7 (sv c) Z (Rb0 Z)<|Jm 8 Z<|?_
 obtain ⟨_, rfl, O⟩ := Slr.at f x
 refine Jq 9 Z (Qi (T := ib) f x Z)<|Jq 10 Z (iD (q := 0) (m := 0) rfl rfl rfl rfl rfl (by decide) rfl (by decide))<|Jl 11 (Vi Y.x0) Z (Rdc.k O rfl)<|?_
 obtain ⟨ai, S, P⟩ := Slr.at u y
 obtain ⟨X, rfl, w⟩ := S
 refine Jq 12 Z (Qi (T := (Ty.sl gK)) u y Z)<|Jl 13 (sv X) Z (Rdc.k P rfl)<|Jm 14 Z<|Jq 15 Z (fD rfl)<|JF 16 2 Z<|Jl 17 (sv c) Z (Rb0 Z)<|Jm 18 Z<|?_
 obtain ⟨_, rfl, Q⟩ := Slr.at f z
 refine Jq 19 Z (Qi (T := ib) f z Z)<|Jq 20 Z (iD (q := 1) (m := 1) rfl rfl rfl rfl rfl (by decide) rfl (by decide))<|Jl 21 (Vi aa.x1) Z (Rdc.k Q rfl)<|?_
 obtain ⟨aj, U, R⟩ := Slr.at w A
 obtain ⟨a, b, rfl, V, W⟩ := U
 refine Jq 22 Z (Qi (T := gK) w A Z)<|JL 23 7 (fj d a b) Z (Rdc.k R rfl)<|?_
 refine Ao 24 Z ?_
 refine Sa (fj d a b) Z .here Z ⟨(Ic Mb1 (Ic Mb2 In0)), ?_⟩
 refine Ad<|fy<|?_
 obtain ac := gm H
 subst e
 refine ⟨(.inl rfl), [(.agg (fj d a b).toArray)], ⟨(.agg (fj d a b).toArray), _, rfl, ⟨_, 7, (fj d a b), rfl, rfl, rfl, rfl, ⟨rfl, Rb0 Z⟩, rfl⟩, rfl⟩, ?_⟩
 exact Pu2<|Pu2<|Re2<|Sd<|⟨a, b, rfl, rfl, rfl, V, W⟩
end Go.Hx
namespace Go.Hx
open Go Go.Proofs
set_option maxRecDepth 10000
set_option maxHeartbeats 1000000
theorem B6 (p0 : ad0) (h : SV) (p1 : af0) (j : SV) (c : Bool) (H : yw p0 p1 = some c) (K : Kp) (G : List Ent) (ai : Slr fG K (sv h) p0) (aj : Slr fQ K (sv j) p1) :
  Fc Tryz.prog 82 #[(sv h), (sv j)] K (G) (fun v l a => v = (.bool c) ∧ G = a) := by
 refine fO Tryz.func82 rfl Tryz.ntmps82 Tryz.results82 rfl ?_
 unfold yw at H
 refine fc<|fa<|Ea Z<|fb<|?_
 refine fz (fun e l a => [] = e ∧ G = a ∧ yy = some c) ?_ ?_
 ·refine fc<|fa<|Ea Z<|fb<|fB<|?_
  refine f8 (fun M e l a => ∃ (b : Int), [(0, (sv h)), (1, (sv j)), (5, (Vi b))] = e ∧ G = a ∧ lp1 (yB p0 p1) M b = some c) BIG ?_ ?_
  ·exact Sd ⟨_, by exact R3, 0, rfl, rfl, H⟩
  rintro M _ aK _ C ⟨b, rfl, rfl, H⟩
  obtain ⟨aZ, x, rfl, ah, H⟩ := nr H
  unfold yB at H
  refine fc<|fc<|fa<|Em Z<|Em Z<|?_
  have p := aj.mono C
  refine Eq Z (ge (T := fQ) p rfl rfl)<|Ec Z<|fb<|?_
  refine fm rfl ?_ ?_
  ·intro n
   obtain ⟨n, H⟩ := It n H
   refine ft ?_
   refine fz (fun e l a => [(0, (sv h)), (1, (sv j)), (5, (Vi b))] = e ∧ G = a ∧ yz p0 p1 b x = some c) ?_ ?_
   ·refine fB<|fc<|fc<|fa<|Em Z<|Em Z<|Em Z<|?_
    obtain ⟨X, J, H⟩ := bnd H
    obtain ⟨a6, aq, af⟩ := Slr.at p J
    obtain ⟨R, S, rfl, ay, az⟩ := aq
    refine Eq Z (Qi (T := fQ) p J Z)<|EF 1 Z<|EL 7 (fj X.op R S) Z (Rdc.k af rfl)<|?_
    obtain ⟨aE, aC, H⟩ := bnd H
    have E := ai.mono C
    refine ff rfl (Ek Tryz.call84 Z (xr p0 h X.op R S aE aC _ _ E ay az) ?_)
    rintro _ aL _ w ⟨bf, rfl, rfl, aA⟩
    refine Eq Z (ge (T := fN) aA rfl rfl)<|Ec Z<|fb<|?_
    refine fm rfl ?_ ?_
    ·intro o
     obtain ⟨o, H⟩ := It o H
     refine fc<|fa<|Ea Z<|fb<|fy<|?_
     obtain B := gm H
     subst c
     refine ⟨(.inl rfl), [(.bool true)], ⟨(.bool true), _, rfl, rfl, rfl⟩, ?_⟩
     exact Re0<|Sd<|⟨rfl, rfl⟩
    ·intro o
     obtain ⟨o, H⟩ := If o H
     refine ft<|fc<|fa<|Ea Z<|fb<|fB<|?_
     refine f8 (fun L e l a => ∃ (i : Int), [(0, (sv h)), (1, (sv j)), (5, (Vi b)), (6, (Vi i))] = e ∧ G = a ∧ lp1 (yA p0 p1 b x) L i = some c) BIG ?_ ?_
     ·exact Re0<|Sd<|⟨_, by exact R4, 0, rfl, rfl, H⟩
     rintro L _ aF _ u ⟨i, rfl, rfl, H⟩
     obtain ⟨aY, aD, rfl, ag, H⟩ := nr H
     unfold yA at H
     refine fc<|fc<|fa<|Em Z<|Em Z<|Ec Z<|fb<|?_
     refine fm rfl ?_ ?_
     ·intro m
      obtain ⟨m, H⟩ := It m H
      refine ft<|fc<|fB<|?_
      refine fz (fun e l a => ∃ (y : Bool), [(0, (sv h)), (1, (sv j)), (5, (Vi b)), (6, (Vi i)), (51, (.bool y))] = e ∧ G = a ∧ uw p0 p1 b i x aD y = some c) ?_ ?_
      ·obtain ⟨z, r, H⟩ := bnd H
       obtain ⟨A, s, H⟩ := bnd H
       rcases gQ (!(dcd (z.thread = A.thread))) with D | D <;> revert D
       ·intro f
        have f := ky (ir (f))
        have H := f0 f H
        obtain ⟨U, F, H⟩ := bnd H
        obtain ⟨V, I, H⟩ := bnd H
        obtain ⟨W, aB, H⟩ := bnd H
        refine fq _ rfl In0<|Jm 0 Z<|Jm 1 Z<|?_
        have g := (p.mono w).mono u
        obtain ⟨a0, ak, Y⟩ := Slr.at g r
        obtain ⟨a7, a8, rfl, aQ, aR⟩ := ak
        refine Jq 2 Z (Qi (T := fQ) g r Z)<|JF 3 0 Z<|Jl 4 (Vi z.thread) Z (Rdc.k Y rfl)<|Jm 5 Z<|Jm 6 Z<|?_
        obtain ⟨a1, al, aa⟩ := Slr.at g s
        obtain ⟨a9, ba, rfl, aS, aT⟩ := al
        refine Jq 7 Z (Qi (T := fQ) g s Z)<|JF 8 0 Z<|Jl 9 (Vi A.thread) Z (Rdc.k aa rfl)<|Jc 10 Z<|Jm 11 Z<|Aw.known (d := 38) rfl (kp (io f))<|Bm 12 Z<|Bm 13 Z<|Bm 14 Z<|?_
        obtain ⟨a2, am, ab⟩ := Slr.at g F
        obtain ⟨N, O, rfl, ar, au⟩ := am
        refine Bq 15 Z (Qi (T := fQ) g F Z)<|BF 16 1 Z<|BL 17 7 (fj U.op N O) Z (Rdc.k ab rfl)<|Bm 18 Z<|Bm 19 Z<|?_
        obtain ⟨a3, an, ac⟩ := Slr.at g I
        obtain ⟨P, Q, rfl, av, aw⟩ := an
        refine Bq 20 Z (Qi (T := fQ) g I Z)<|BF 21 1 Z<|BL 22 7 (fj V.op P Q) Z (Rdc.k ac rfl)<|?_
        refine gx 23 (by kernel_rfl) (jK rfl rfl rfl rfl rfl ?_)
        have ax := (E.mono w).mono u
        refine Ek Tryz.call108 Z (B5 p0 h U.op N O V.op P Q W aB _ _ ax ar au av aw) ?_
        rintro _ aG _ aM ⟨rfl, rfl⟩
        refine ⟨In0, ?_⟩
        exact Jt 24 Z<|Ad<|Sd<|⟨_, by exact R5, W, rfl, rfl, H⟩
       ·intro f
        have f := kz (iq (f))
        have H := ift f H
        refine fq _ rfl In0<|Jm 0 Z<|Jm 1 Z<|?_
        have q := (p.mono w).mono u
        obtain ⟨a4, ao, ad⟩ := Slr.at q r
        obtain ⟨bb, bc, rfl, aU, aV⟩ := ao
        refine Jq 2 Z (Qi (T := fQ) q r Z)<|JF 3 0 Z<|Jl 4 (Vi z.thread) Z (Rdc.k ad rfl)<|Jm 5 Z<|Jm 6 Z<|?_
        obtain ⟨a5, ap, ae⟩ := Slr.at q s
        obtain ⟨bd, be, rfl, aW, aX⟩ := ap
        exact Jq 7 Z (Qi (T := fQ) q s Z)<|JF 8 0 Z<|Jl 9 (Vi A.thread) Z (Rdc.k ae rfl)<|Jc 10 Z<|Jm 11 Z<|Aw.known (d := 38) rfl (kB (hZ f))<|Jz 12 Z<|Jz 13 Z<|Jz 14 Z<|Jz 15 Z<|Jz 16 Z<|Jz 17 Z<|Jz 18 Z<|Jz 19 Z<|Jz 20 Z<|Jz 21 Z<|Jz 22 Z<|Jz 23 Z<|Jf 24 Z<|Ad<|Sd<|⟨_, by exact R5, false, rfl, rfl, H⟩
      rintro _ aH _ aN ⟨y, rfl, rfl, H⟩
      unfold uw at H
      refine fm rfl ?_ ?_
      ·intro t
       have H := ift t H
       refine fc<|fa<|Ea Z<|fb<|fy<|?_
       obtain B := gm H
       subst c
       refine ⟨(.inl rfl), [(.bool true)], ⟨(.bool true), _, rfl, rfl, rfl⟩, ?_⟩
       exact Sd ⟨rfl, rfl⟩
      ·intro t
       have H := f0 (btf t) H
       exact ft<|fa<|Em Z<|Er (wI (i + 1)) Z<|Ea Z<|fb<|Sd<|⟨_, by exact R4, _, Nat.lt_succ_self _, (wI (i + 1)), rfl, rfl, (ag ▸ H)⟩
     ·intro m
      obtain ⟨m, H⟩ := If m H
      exact ga<|Sd<|⟨_, by exact R3, rfl, rfl, H⟩
   rintro _ aI _ aO ⟨rfl, rfl, H⟩
   unfold yz at H
   exact fa<|Em Z<|Er (wI (b + 1)) Z<|Ea Z<|fb<|Sd<|⟨_, by exact R3, _, Nat.lt_succ_self _, (wI (b + 1)), rfl, rfl, (ah ▸ H)⟩
  ·intro n
   obtain ⟨n, H⟩ := If n H
   exact ga<|Sd<|⟨[], trivial, rfl, rfl, H⟩
 rintro _ aJ _ aP ⟨rfl, rfl, H⟩
 unfold yy at H
 refine fc<|fa<|Ea Z<|fb<|fy<|?_
 obtain B := gm H
 subst c
 refine ⟨(.inl rfl), [(.bool false)], ⟨(.bool false), _, rfl, rfl, rfl⟩, ?_⟩
 exact Sd ⟨rfl, rfl⟩
end Go.Hx
namespace Go.Hx
open Go Go.Proofs
set_option maxRecDepth 10000
set_option maxHeartbeats 1000000
theorem B7 (d : Nat) (B : ae3) (s : SV) (A : ad6) (r : SV) (z : ae5) (g : SV) (y : af4) (p : SV) (x : ae0) (f : SV) (C : ad5) (t : SV) (c : Bool) (a : Bool) (D : ad8) (b : SV) (o : List (List Value)) (p1 : ae0) (M : SV) (p2 : ad0) (E : SV) (h : Bool) (H : rF B A z y x C c a D p1 p2 = some h) (K : Kp) (G : List Ent) (aC : Slr (Ty.sl gK) K (sv s) B) (aB : Slr f5 K (sv r) A) (aA : Slr ib K (sv g) z) (az : Slr (Ty.sl Ty.bool) K (sv p) y) (ab : Slr Ty.bool K (sv f) x) (aD : Slr fN K (sv t) C) (aE : RowR Ty.str K o D) (U : Slr Ty.bool K (sv M) p1) (aF : Slr fG K (sv E) p2) :
  Fc Tryz.prog 46 #[(Vp d), (sv M), (sv E)] K ((.blk d 76 [(sv s), (sv r), (sv g), (sv p), (sv f), (sv t), (.bool c), (.bool a), (sv b)]) :: (.row (sv b) 9 1 o.flatten) :: G) (fun v i e => v = (.bool h) ∧ (.blk d 76 [(sv s), (sv r), (sv g), (sv p), (sv f), (sv t), (.bool c), (.bool a), (sv b)]) :: (.row (sv b) 9 1 o.flatten) :: G = e) := by
 refine fO Tryz.func46 rfl Tryz.ntmps46 Tryz.results46 rfl ?_
 unfold rF at H
 refine fc<|fa<|Ea Z<|fb<|?_
 refine fz (fun j i e => [(0, (Vp d)), (1, (sv M)), (2, (sv E))] = j ∧ (.blk d 76 [(sv s), (sv r), (sv g), (sv p), (sv f), (sv t), (.bool c), (.bool a), (sv b)]) :: (.row (sv b) 9 1 o.flatten) :: G = e ∧ vC p1 p2 B A z y x C c a D = some h) ?_ ?_
 ·refine fc<|fa<|Ea Z<|fb<|fB<|?_
  refine f8 (fun n248 j i e => ∃ (J : Int), [(0, (Vp d)), (1, (sv M)), (2, (sv E)), (7, (Vi J))] = j ∧ K = i ∧ (.blk d 76 [(sv s), (sv r), (sv g), (sv p), (sv f), (sv t), (.bool c), (.bool a), (sv b)]) :: (.row (sv b) 9 1 o.flatten) :: G = e ∧ lp1 (vD p1 p2 B A z y x C c a D) n248 J = some h) BIG ?_ ?_
  ·exact Pu1<|Pu1<|Sd<|⟨_, by exact R4, 0, rfl, rfl, rfl, H⟩
  rintro n248 _ _ _ - ⟨J, rfl, rfl, rfl, H⟩
  obtain ⟨a6, aU, rfl, ay, H⟩ := nr H
  unfold vD at H
  refine fc<|fc<|fa<|Em Z<|Em Z<|Eq Z (ge (T := Ty.bool) U rfl rfl)<|Ec Z<|fb<|?_
  refine fm rfl ?_ ?_
  ·intro P
   obtain ⟨P, H⟩ := It P H
   refine ft<|fc<|fB<|?_
   refine fz (fun j i e => ∃ (af : Bool), [(0, (Vp d)), (1, (sv M)), (2, (sv E)), (7, (Vi J)), (29, (.bool af))] = j ∧ K = i ∧ (.blk d 76 [(sv s), (sv r), (sv g), (sv p), (sv f), (sv t), (.bool c), (.bool a), (sv b)]) :: (.row (sv b) 9 1 o.flatten) :: G = e ∧ sr p1 p2 J B A z y x C c a D aU af = some h) ?_ ?_
   ·refine fa<|Em Z<|Eq Z (fD rfl)<|EF 4 Z<|El (sv f) Z (Rb0 Z)<|Em Z<|?_
    obtain ⟨aW, ak, H⟩ := bnd H
    obtain ⟨_, rfl, au⟩ := Slr.at ab ak
    refine Eq Z (Qi (T := Ty.bool) ab ak Z)<|El (.bool aW) Z (Rdc.k au rfl)<|Em Z<|?_
    refine Ee Z ?_ ?_
    ·intro Y
     have H := ift Y H
     refine Vm Z<|Vm Z<|?_
     obtain ⟨ap, al, H⟩ := bnd H
     obtain ⟨_, rfl, av⟩ := Slr.at U al
     exact Vq Z (Qi (T := Ty.bool) U al Z)<|Vl (.bool ap) Z (Rdc.k av rfl)<|Vq Z (gd rfl)<|Et Z<|fb<|Pu1<|Pu1<|Sd<|⟨_, by exact R5, (!(ap)), rfl, rfl, rfl, H⟩
    ·intro Y
     have H := f0 (btf Y) H
     exact Ez Z<|Ez Z<|Ez Z<|Ez Z<|Ez Z<|Ef Z<|fb<|Pu1<|Pu1<|Sd<|⟨_, by exact R5, false, rfl, rfl, rfl, H⟩
   rintro _ _ _ - ⟨af, rfl, rfl, rfl, H⟩
   unfold sr at H
   refine fm rfl ?_ ?_
   ·intro aa
    have H := ift aa H
    refine fc<|fa<|Ea Z<|fb<|fy<|?_
    obtain ah := gm H
    subst h
    refine ⟨(.inl rfl), [(.bool false)], ⟨(.bool false), _, rfl, rfl, rfl⟩, ?_⟩
    exact Pu1<|Pu1<|Sd<|⟨rfl, rfl⟩
   ·intro aa
    have H := f0 (btf aa) H
    exact ft<|fa<|Em Z<|Er (wI (J + 1)) Z<|Ea Z<|fb<|Pu1<|Pu1<|Sd<|⟨_, by exact R4, _, Nat.lt_succ_self _, (wI (J + 1)), rfl, rfl, rfl, (ay ▸ H)⟩
  ·intro P
   obtain ⟨P, H⟩ := If P H
   exact ga<|Pu1<|Pu1<|Sd<|⟨_, by exact R3, rfl, rfl, H⟩
 rintro _ aZ _ n ⟨rfl, rfl, H⟩
 unfold vC at H
 refine fc<|fc<|fa<|Em Z<|Eq Z (fD rfl)<|EF 7 Z<|El (.bool a) Z (Rb0 Z)<|Eq Z (gd rfl)<|fb<|?_
 refine fm rfl ?_ ?_
 ·intro F
  have F := ir F
  have H := f0 (btf F) H
  refine fc<|fa<|Ea Z<|fb<|fy<|?_
  obtain ah := gm H
  subst h
  refine ⟨(.inl rfl), [(.bool true)], ⟨(.bool true), _, rfl, rfl, rfl⟩, ?_⟩
  exact Pu1<|Pu1<|Sd<|⟨rfl, rfl⟩
 ·intro F
  have F := iq F
  have H := ift F H
  refine ft<|fc<|fa<|Ea Z<|fb<|?_
  refine fz (fun j i e => ∃ (S : SV) (V : af0), [(2, (sv E)), (8, (sv S))] = j ∧ (.blk d 76 [(sv s), (sv r), (sv g), (sv p), (sv f), (sv t), (.bool c), (.bool a), (sv b)]) :: (.tok 96 8 [(sv S)]) :: (.row (sv b) 9 1 o.flatten) :: G = e ∧ yN p2 B A z y x C c a D V = some h ∧ Slr fQ i (sv S) V) ?_ ?_
  ·refine fc<|fa<|Ea Z<|fb<|fB<|?_
   refine f8 (fun ao j i e => ∃ (L : SV) (R : af0) (w : Int), [(0, (Vp d)), (1, (sv M)), (2, (sv E)), (8, (sv L)), (9, (Vi w))] = j ∧ (.blk d 76 [(sv s), (sv r), (sv g), (sv p), (sv f), (sv t), (.bool c), (.bool a), (sv b)]) :: (.tok 96 8 [(sv L)]) :: (.row (sv b) 9 1 o.flatten) :: G = e ∧ lp2 (yO p1 p2 B A z y x C c a D) ao R w = some h ∧ Slr fQ i (sv L) R) BIG ?_ ?_
   ·exact Shift.nilTok1 96 8<|Pu2<|Pu1<|Pu2<|Sd<|⟨_, by exact R5, fA, ([] : af0), 0, rfl, rfl, H, (Slr.nil fQ _)⟩
   rintro ao _ aq _ u ⟨L, R, w, rfl, rfl, H, ac⟩
   obtain ⟨a7, a5, rfl, aj, H⟩ := jF H
   unfold yO at H
   refine fc<|fc<|fa<|Em Z<|Em Z<|?_
   have aH := (U.mono n).mono u
   refine Eq Z (ge (T := Ty.bool) aH rfl rfl)<|Ec Z<|fb<|?_
   refine fm rfl ?_ ?_
   ·intro Q
    obtain ⟨Q, H⟩ := It Q H
    refine ft<|fc<|fB<|fc<|fa<|Em Z<|Eq Z (fD rfl)<|EF 4 Z<|El (sv f) Z (Rb0 Z)<|Em Z<|?_
    obtain ⟨aX, am, H⟩ := bnd H
    have ad := (ab.mono n).mono u
    obtain ⟨_, rfl, aw⟩ := Slr.at ad am
    refine Eq Z (Qi (T := Ty.bool) ad am Z)<|El (.bool aX) Z (Rdc.k aw rfl)<|Eq Z (gd rfl)<|fb<|?_
    refine fm rfl ?_ ?_
    ·intro I
     have I := ir I
     have H := f0 (btf I) H
     obtain ⟨N, an, H⟩ := bnd H
     obtain ⟨O, aR, H⟩ := bnd H
     obtain ⟨aY, aS, H⟩ := bnd H
     refine fq _ rfl (Ic Mb0 (Ic Mb2 In0))<|Jm 0 Z<|Jm 1 Z<|Jq 2 Z (fD rfl)<|JF 3 2 Z<|Jl 4 (sv g) Z (Rb0 Z)<|Jm 5 Z<|?_
     have ae := (aA.mono n).mono u
     obtain ⟨_, rfl, ax⟩ := Slr.at ae an
     refine Jq 6 Z (Qi (T := ib) ae an Z)<|Jq 7 Z (iD (q := 0) (m := 0) rfl rfl rfl rfl rfl (by decide) rfl (by decide))<|Jl 8 (Vi N.x0) Z (Rdc.k ax rfl)<|Jm 9 Z<|Jm 10 Z<|?_
     refine Ao 11 Z ?_
     refine OpW.shift (Pu2 (Sd ?_))
     refine OpW.shift (Pu1 (Sd ?_))
     have aI := (aC.mono n).mono u
     have aJ := (aB.mono n).mono u
     have aK := (az.mono n).mono u
     have aL := (aD.mono n).mono u
     have aM := (aE.mono n).mono u
     refine Ek Tryz.call52 Z (m8 d B s A r z g y p x f C t c a D b o w O aR _ _ aI aJ ae aK ad aL aM) ?_
     rintro _ _ _ - ⟨W, X, rfl, rfl, rfl, aN, aO⟩
     refine ⟨(Ic Mb0 (Ic Mb1 In0)), ?_⟩
     refine Jq 12 Z (fF (cs := (gp (gB.mk N.x0 O) W X)) rfl rfl rfl rfl rfl rfl) ?_
     refine Ao 13 Z ?_
     have ai : RowR fQ aq [(gp (gB.mk N.x0 O) W X)] [(gB.mk N.x0 O)] := RowR.cons ⟨W, X, rfl, aN, aO⟩ (RowR.nil)
     refine gg (T := fQ) (rows := [(gp (gB.mk N.x0 O) W X)]) (l := [(gB.mk N.x0 O)]) rfl rfl rfl ai rfl rfl rfl rfl rfl rfl rfl rfl (fun a8 => ⟨(Ic Mb1 (Ic Mb2 In0)), ?_⟩)
     refine Ao 14 Z ?_
     refine f7 (T := fQ) (bytes := 96) (q := 0) rfl rfl rfl ac Mb3 rfl (SrcT.row Mb0 ai rfl) aS rfl rfl rfl rfl rfl rfl rfl rfl (fun aV a0 a3 aP => ⟨_, (.there (.there (.there .here))), ⟨(Ic Mb1 (Ic Mb2 In0)), ?_⟩⟩)
     refine Aw.shift (Re0 (Sd ⟨(Ic Mb0 (Ic Mb1 In0)), ?_⟩))
     exact Ja 15 Z<|Ad<|fa<|Em Z<|Er (wI (w + 1)) Z<|Ea Z<|fb<|Pu1<|Pu2<|Pu2<|Sd<|⟨_, by exact R5, _, Nat.lt_succ_self _, aV, aY, (wI (w + 1)), rfl, rfl, (aj ▸ H), aP⟩
    ·intro I
     have I := iq I
     have H := ift I H
     exact ft<|fa<|Em Z<|Er (wI (w + 1)) Z<|Ea Z<|fb<|Pu2<|Pu2<|Pu2<|Sd<|⟨_, by exact R5, _, Nat.lt_succ_self _, L, R, (wI (w + 1)), rfl, rfl, (aj ▸ H), ac⟩
   ·intro Q
    obtain ⟨Q, H⟩ := If Q H
    exact ga<|Pu2<|Pu2<|Pu2<|Sd<|⟨_, by exact R2, L, R, rfl, rfl, H, ac⟩
  rintro _ a1 _ ar ⟨S, V, rfl, rfl, H, aG⟩
  unfold yN at H
  refine fc<|fa<|Em Z<|Em Z<|?_
  obtain ⟨ag, aT, H⟩ := bnd H
  have aQ := (aF.mono n).mono ar
  refine ff rfl (Ek Tryz.call82 Z (B6 p2 E V S ag aT _ _ aQ aG) ?_)
  rintro _ a2 _ a4 ⟨rfl, rfl⟩
  refine Eq Z (gd rfl)<|Ea Z<|fb<|fy<|?_
  obtain ah := gm H
  subst h
  refine ⟨(.inl rfl), [(.bool (!(ag)))], ⟨(.bool (!(ag))), _, rfl, rfl, rfl⟩, ?_⟩
  exact Pu2<|Pu1<|Re2<|Sd<|⟨rfl, rfl⟩
theorem xu (p0 : ad1) (p : SV) (o : List (List Value)) (p1 : Int) (g : ad1) (H : oC p0 p1 = some g) (K : Kp) (G : List Ent) (y : RowR Ty.u8 K o p0) :
  Fc Tryz.prog 83 #[(sv p), (.int .u64 p1)] K ((.row (sv p) 5 1 o.flatten) :: G) (fun v b e => ∃ (t : SV) (s : List (List Value)), v = (sv t) ∧ (.row (sv t) 5 1 s.flatten) :: G = e ∧ RowR Ty.u8 b s g) := by
 refine fO Tryz.func83 rfl Tryz.ntmps83 Tryz.results83 rfl ?_
 unfold oC at H
 refine fc<|fa<|Ea Z<|fb<|?_
 refine fz (fun m b e => ∃ (d : SV) (n : ad1) (j : List (List Value)), [(0, (sv d))] = m ∧ (.row (sv d) 5 1 j.flatten) :: G = e ∧ vE n = some g ∧ RowR Ty.u8 b j n) ?_ ?_
 ·refine fc<|fa<|Ea Z<|fb<|fB<|?_
  refine f8 (fun n107 m b e => ∃ (k : SV) (h : ad1) (i : List (List Value)) (a : Int), [(0, (sv k)), (1, (.int .u64 p1)), (5, (Vi a))] = m ∧ K = b ∧ (.row (sv k) 5 1 i.flatten) :: G = e ∧ lp2 (vF p1) n107 h a = some g ∧ RowR Ty.u8 b i h) BIG ?_ ?_
  ·exact Sd ⟨_, by exact R3, p, p0, o, 0, rfl, rfl, rfl, H, y⟩
  rintro n107 _ _ _ - ⟨k, h, i, a, rfl, rfl, rfl, H, q⟩
  obtain ⟨L, J, rfl, x, H⟩ := jF H
  unfold vF at H
  refine fc<|fc<|fa<|Em Z<|Ec Z<|fb<|?_
  refine fm rfl ?_ ?_
  ·intro f
   obtain ⟨f, H⟩ := It f H
   refine ft<|fc<|fB<|fa<|Em Z<|Em Z<|Em Z<|Er (wI (8 * a)) Z<|Eq Z (mX (c := wU (wI (8 * a))) rfl rfl rfl rfl)<|?_
   obtain ⟨N, z, H⟩ := bnd H
   refine Eq Z (EN (AG z).1 rfl rfl)<|Eq Z (mX (c := wB (tz .u64 p1 (wU (wI (8 * a))))) rfl rfl rfl rfl)<|?_
   have r : RowR Ty.u8 K [[(.int .u8 (wB (tz .u64 p1 (wU (wI (8 * a))))))]] [wB (tz .u64 p1 (wU (wI (8 * a))))] := RowR.cons rfl (RowR.nil)
   refine ff rfl (gg (T := Ty.u8) (rows := [[(.int .u8 (wB (tz .u64 p1 (wU (wI (8 * a))))))]]) (l := [wB (tz .u64 p1 (wU (wI (8 * a))))]) rfl rfl rfl r rfl rfl rfl rfl rfl rfl rfl rfl (fun M => ?_))
   obtain ⟨D, A, H⟩ := bnd H
   refine ff rfl (gW (T := Ty.u8) (bytes := 1) rfl rfl rfl Mb1 q (SrcT.row Mb0 r rfl) A rfl rfl rfl rfl rfl rfl rfl rfl (fun C B u => ⟨_, (.there .here), ?_⟩))
   refine Ow.shift (Re0 (Sd ?_))
   exact Ea Z<|fb<|fa<|Em Z<|Er (wI (a + 1)) Z<|Ea Z<|fb<|Sd<|⟨_, by exact R3, _, Nat.lt_succ_self _, C, D, B, (wI (a + 1)), rfl, rfl, rfl, (x ▸ H), u⟩
  ·intro f
   obtain ⟨f, H⟩ := If f H
   exact ga<|Sd<|⟨_, by exact R1, k, h, i, rfl, rfl, H, q⟩
 rintro _ E _ I ⟨d, n, j, rfl, rfl, H, w⟩
 unfold vE at H
 refine fc<|fa<|Em Z<|Ea Z<|fb<|fy<|?_
 obtain F := gm H
 subst g
 refine ⟨(.inl rfl), [(sv d)], ⟨(sv d), _, rfl, rfl, rfl⟩, ?_⟩
 exact Sd ⟨d, j, rfl, rfl, w⟩
theorem B8 (p0 : ae0) (Y : SV) (p1 : ad0) (g : SV) (f : ByteArray) (H : rH p0 p1 = some f) (K : Kp) (G : List Ent) (Q : Slr Ty.bool K (sv Y) p0) (aY : Slr fG K (sv g) p1) :
  Fc Tryz.prog 48 #[(sv Y), (sv g)] K (G) (fun v a b => v = (.string f) ∧ G = b) := by
 refine fO Tryz.func48 rfl Tryz.ntmps48 Tryz.results48 rfl ?_
 unfold rH at H
 refine fc<|fa<|Ea Z<|fb<|fc<|fa<|Ea Z<|fb<|?_
 refine fz (fun d a b => ∃ (L : SV) (A : ad1) (E : List (List Value)), [(1, (sv g)), (5, (sv L))] = d ∧ (.row (sv L) 5 1 E.flatten) :: G = b ∧ rG p1 A = some f ∧ RowR Ty.u8 a E A) ?_ ?_
 ·refine fc<|fa<|Ea Z<|fb<|fB<|?_
  refine f8 (fun aw d a b => ∃ (M : SV) (B : ad1) (F : List (List Value)) (h : Int), [(0, (sv Y)), (1, (sv g)), (5, (sv M)), (6, (Vi h))] = d ∧ K = a ∧ (.row (sv M) 5 1 F.flatten) :: G = b ∧ lp2 (vL p0 p1) aw B h = some f ∧ RowR Ty.u8 a F B) BIG ?_ ?_
  ·have aM : RowR Ty.u8 K [] [] := RowR.nil
   exact Shift.nilRow 5 1<|Sd<|⟨_, by exact R4, fA, ([] : ad1), ([] : List (List Value)), 0, rfl, rfl, rfl, H, aM⟩
  rintro aw _ _ _ - ⟨M, B, F, h, rfl, rfl, rfl, H, P⟩
  obtain ⟨bP, bM, rfl, ai, H⟩ := jF H
  unfold vL at H
  refine fc<|fc<|fa<|Em Z<|Em Z<|Eq Z (ge (T := Ty.bool) Q rfl rfl)<|Ec Z<|fb<|?_
  refine fm rfl ?_ ?_
  ·intro m
   obtain ⟨m, H⟩ := It m H
   refine ft<|fc<|fB<|fc<|fa<|Em Z<|Em Z<|?_
   obtain ⟨bv, ar, H⟩ := bnd H
   obtain ⟨_, rfl, aV⟩ := Slr.at Q ar
   refine Eq Z (Qi (T := Ty.bool) Q ar Z)<|El (.bool bv) Z (Rdc.k aV rfl)<|fb<|?_
   refine fm rfl ?_ ?_
   ·intro O
    have H := ift O H
    refine fa<|Em Z<|?_
    have ag : RowR Ty.u8 K [[(.int .u8 1)]] [1] := RowR.cons rfl (RowR.nil)
    refine ff rfl (gg (T := Ty.u8) (rows := [[(.int .u8 1)]]) (l := [1]) rfl rfl rfl ag rfl rfl rfl rfl rfl rfl rfl rfl (fun bX => ?_))
    obtain ⟨bw, bb, H⟩ := bnd H
    refine ff rfl (gW (T := Ty.u8) (bytes := 1) rfl rfl rfl Mb1 P (SrcT.row Mb0 ag rfl) bb rfl rfl rfl rfl rfl rfl rfl rfl (fun bq bh aN => ⟨_, (.there .here), ?_⟩))
    refine Ow.shift (Re0 (Sd ?_))
    exact Ea Z<|fb<|fa<|Em Z<|Er (wI (h + 1)) Z<|Ea Z<|fb<|Sd<|⟨_, by exact R4, _, Nat.lt_succ_self _, bq, bw, bh, (wI (h + 1)), rfl, rfl, rfl, (ai ▸ H), aN⟩
   ·intro O
    have H := f0 (btf O) H
    refine fa<|Em Z<|?_
    have ah : RowR Ty.u8 K [[(.int .u8 0)]] [0] := RowR.cons rfl (RowR.nil)
    refine ff rfl (gg (T := Ty.u8) (rows := [[(.int .u8 0)]]) (l := [0]) rfl rfl rfl ah rfl rfl rfl rfl rfl rfl rfl rfl (fun bY => ?_))
    obtain ⟨bx, bc, H⟩ := bnd H
    refine ff rfl (gW (T := Ty.u8) (bytes := 1) rfl rfl rfl Mb1 P (SrcT.row Mb0 ah rfl) bc rfl rfl rfl rfl rfl rfl rfl rfl (fun br bi aO => ⟨_, (.there .here), ?_⟩))
    refine Ow.shift (Re0 (Sd ?_))
    exact Ea Z<|fb<|fa<|Em Z<|Er (wI (h + 1)) Z<|Ea Z<|fb<|Sd<|⟨_, by exact R4, _, Nat.lt_succ_self _, br, bx, bi, (wI (h + 1)), rfl, rfl, rfl, (ai ▸ H), aO⟩
  ·intro m
   obtain ⟨m, H⟩ := If m H
   exact ga<|Sd<|⟨_, by exact R2, M, B, F, rfl, rfl, H, P⟩
 rintro _ bE _ aF ⟨L, A, E, rfl, rfl, H, aL⟩
 unfold rG at H
 refine fz (fun d a b => ∃ (X : SV) (S : ad1) (V : List (List Value)), [(5, (sv X))] = d ∧ (.row (sv X) 5 1 V.flatten) :: G = b ∧ vG S = some f ∧ RowR Ty.u8 a V S) ?_ ?_
 ·refine fc<|fa<|Ea Z<|fb<|fB<|?_
  refine f8 (fun au d a b => ∃ (t : SV) (p : ad1) (r : List (List Value)) (e : Int), [(1, (sv g)), (5, (sv t)), (7, (Vi e))] = d ∧ (.row (sv t) 5 1 r.flatten) :: G = b ∧ lp2 (vK p1) au p e = some f ∧ RowR Ty.u8 a r p) BIG ?_ ?_
  ·exact Sd ⟨_, by exact R3, L, A, E, 0, rfl, rfl, H, aL⟩
  rintro au _ bz _ aD ⟨t, p, r, e, rfl, rfl, H, ac⟩
  obtain ⟨bN, x, rfl, aW, H⟩ := jF H
  unfold vK at H
  refine fc<|fc<|fa<|Em Z<|Em Z<|?_
  have n := (aY.mono aF).mono aD
  refine Eq Z (ge (T := fG) n rfl rfl)<|Ec Z<|fb<|?_
  refine fm rfl ?_ ?_
  ·intro i
   obtain ⟨i, H⟩ := It i H
   refine ft ?_
   refine fz (fun d a b => ∃ (I : SV) (y : ad1) (C : List (List Value)), [(1, (sv g)), (5, (sv I)), (7, (Vi e))] = d ∧ (.row (sv I) 5 1 C.flatten) :: G = b ∧ vH p1 e x y = some f ∧ RowR Ty.u8 a C y) ?_ ?_
   ·refine fB<|fc<|fa<|Em Z<|Em Z<|Em Z<|?_
    obtain ⟨ax, am, H⟩ := bnd H
    obtain ⟨bQ, aZ, aQ⟩ := Slr.at n am
    obtain ⟨bj, rfl, a3⟩ := aZ
    refine Eq Z (Qi (T := fG) n am Z)<|EF 1 Z<|El (sv bj) Z (Rdc.k aQ rfl)<|Eq Z (ge (T := Ty.u64) a3 rfl rfl)<|Eq Z (mX (c := wU (ax.buffer.length : Int)) rfl rfl rfl rfl)<|?_
    obtain ⟨ay, a6, H⟩ := bnd H
    refine ff rfl (Ek Tryz.call83 Z (xu p t r (wU (ax.buffer.length : Int)) ay a6 _ _ ac) ?_)
    rintro _ aa _ ab ⟨bk, bd, rfl, rfl, aj⟩
    refine Ea Z<|fb<|?_
    refine fz (fun d a b => ∃ (J : SV) (z : ad1) (D : List (List Value)), [(1, (sv g)), (5, (sv J)), (7, (Vi e))] = d ∧ aa = a ∧ (.row (sv J) 5 1 D.flatten) :: G = b ∧ oD p1 e x z = some f ∧ RowR Ty.u8 a D z) ?_ ?_
    ·refine fc<|fa<|Em Z<|Em Z<|?_
     obtain ⟨bs, an, H⟩ := bnd H
     have ak := n.mono ab
     obtain ⟨bR, a0, aR⟩ := Slr.at ak an
     obtain ⟨bU, rfl, bK⟩ := a0
     refine Eq Z (Qi (T := fG) ak an Z)<|EF 2 Z<|El (.bool bs.closed) Z (Rdc.k aR rfl)<|fb<|?_
     refine fm rfl ?_ ?_
     ·intro N
      have H := ift N H
      refine fa<|Em Z<|?_
      have ad : RowR Ty.u8 aa [[(.int .u8 1)]] [1] := RowR.cons rfl (RowR.nil)
      refine ff rfl (gg (T := Ty.u8) (rows := [[(.int .u8 1)]]) (l := [1]) rfl rfl rfl ad rfl rfl rfl rfl rfl rfl rfl rfl (fun bV => ?_))
      obtain ⟨bt, a7, H⟩ := bnd H
      refine ff rfl (gW (T := Ty.u8) (bytes := 1) rfl rfl rfl Mb1 aj (SrcT.row Mb0 ad rfl) a7 rfl rfl rfl rfl rfl rfl rfl rfl (fun bl be aI => ⟨_, (.there .here), ?_⟩))
      refine Ow.shift (Re0 (Sd ?_))
      exact Ea Z<|fb<|Sd<|⟨_, by exact R3, bl, bt, be, rfl, rfl, rfl, H, aI⟩
     ·intro N
      have H := f0 (btf N) H
      exact ft<|Sd<|⟨_, by exact R3, bk, ay, bd, rfl, rfl, rfl, H, aj⟩
    rintro _ _ _ - ⟨J, z, D, rfl, rfl, rfl, H, aH⟩
    unfold oD at H
    refine fz (fun d a b => ∃ (W : SV) (R : ad1) (U : List (List Value)), [(1, (sv g)), (5, (sv W)), (7, (Vi e))] = d ∧ (.row (sv W) 5 1 U.flatten) :: G = b ∧ vI p1 e x R = some f ∧ RowR Ty.u8 a U R) ?_ ?_
    ·refine fc<|fa<|Ea Z<|fb<|fB<|?_
     refine f8 (fun av d a b => ∃ (u : SV) (q : ad1) (s : List (List Value)) (o : Int), [(1, (sv g)), (5, (sv u)), (7, (Vi e)), (8, (Vi o))] = d ∧ (.row (sv u) 5 1 s.flatten) :: G = b ∧ lp2 (vJ p1 e x) av q o = some f ∧ RowR Ty.u8 a s q) BIG ?_ ?_
     ·exact Sd ⟨_, by exact R4, J, z, D, 0, rfl, rfl, H, aH⟩
     rintro av _ bA _ aE ⟨u, q, s, o, rfl, rfl, H, ae⟩
     obtain ⟨bO, bL, rfl, aX, H⟩ := jF H
     unfold vJ at H
     refine fc<|fc<|fa<|Em Z<|Em Z<|Em Z<|?_
     obtain ⟨bZ, ao, H⟩ := bnd H
     have w := (n.mono ab).mono aE
     obtain ⟨bS, a1, aS⟩ := Slr.at w ao
     obtain ⟨bm, rfl, a4⟩ := a1
     refine Eq Z (Qi (T := fG) w ao Z)<|EF 1 Z<|El (sv bm) Z (Rdc.k aS rfl)<|Eq Z (ge (T := Ty.u64) a4 rfl rfl)<|Ec Z<|fb<|?_
     refine fm rfl ?_ ?_
     ·intro j
      obtain ⟨j, H⟩ := It j H
      refine ft<|fc<|fB<|fa<|Em Z<|Em Z<|Em Z<|?_
      obtain ⟨b0, ap, H⟩ := bnd H
      obtain ⟨bT, a2, aT⟩ := Slr.at w ap
      obtain ⟨bn, rfl, al⟩ := a2
      refine Eq Z (Qi (T := fG) w ap Z)<|EF 1 Z<|El (sv bn) Z (Rdc.k aT rfl)<|Em Z<|?_
      obtain ⟨az, aq, H⟩ := bnd H
      obtain ⟨_, rfl, aU⟩ := Slr.at al aq
      refine Eq Z (Qi (T := Ty.u64) al aq Z)<|El (.int .u64 az) Z (Rdc.k aU rfl)<|?_
      obtain ⟨aA, a8, H⟩ := bnd H
      refine ff rfl (Ek Tryz.call83 Z (xu q u s az aA a8 _ _ ae) ?_)
      rintro _ bB _ bG ⟨bo, bf, rfl, rfl, a5⟩
      exact Ea Z<|fb<|fa<|Em Z<|Er (wI (o + 1)) Z<|Ea Z<|fb<|Sd<|⟨_, by exact R4, _, Nat.lt_succ_self _, bo, aA, bf, (wI (o + 1)), rfl, rfl, (aX ▸ H), a5⟩
     ·intro j
      obtain ⟨j, H⟩ := If j H
      exact ga<|Sd<|⟨_, by exact R3, u, q, s, rfl, rfl, H, ae⟩
    rintro _ aC _ bH ⟨W, R, U, rfl, rfl, H, aJ⟩
    unfold vI at H
    refine fa<|Em Z<|?_
    have af : RowR Ty.u8 aC [[(.int .u8 2)]] [2] := RowR.cons rfl (RowR.nil)
    refine ff rfl (gg (T := Ty.u8) (rows := [[(.int .u8 2)]]) (l := [2]) rfl rfl rfl af rfl rfl rfl rfl rfl rfl rfl rfl (fun bW => ?_))
    obtain ⟨bu, a9, H⟩ := bnd H
    refine ff rfl (gW (T := Ty.u8) (bytes := 1) rfl rfl rfl Mb1 aJ (SrcT.row Mb0 af rfl) a9 rfl rfl rfl rfl rfl rfl rfl rfl (fun bp bg aK => ⟨_, (.there .here), ?_⟩))
    refine Ow.shift (Re0 (Sd ?_))
    exact Ea Z<|fb<|Sd<|⟨_, by exact R3, bp, bu, bg, rfl, rfl, H, aK⟩
   rintro _ bC _ bI ⟨I, y, C, rfl, rfl, H, aG⟩
   unfold vH at H
   exact fa<|Em Z<|Er (wI (e + 1)) Z<|Ea Z<|fb<|Sd<|⟨_, by exact R3, _, Nat.lt_succ_self _, I, y, C, (wI (e + 1)), rfl, rfl, (aW ▸ H), aG⟩
  ·intro i
   obtain ⟨i, H⟩ := If i H
   exact ga<|Sd<|⟨_, by exact R1, t, p, r, rfl, rfl, H, ac⟩
 rintro _ bD _ bJ ⟨X, S, V, rfl, rfl, H, aP⟩
 unfold vG at H
 refine fc<|fa<|Em Z<|?_
 obtain ⟨aB, ba, H⟩ := bnd H
 refine Eq Z (Bh Mb0 aP ba rfl rfl rfl rfl)<|Ea Z<|fb<|fy<|?_
 obtain bF := gm H
 subst f
 refine ⟨(.inl rfl), [(.string aB)], ⟨(.string aB), _, rfl, rfl, rfl⟩, ?_⟩
 exact Re0<|Sd<|⟨rfl, rfl⟩
theorem B9 (d : Nat) (z : ae3) (j : SV) (y : ad6) (i : SV) (x : ae5) (h : SV) (w : af4) (g : SV) (u : ae0) (f : SV) (A : ad5) (k : SV) (b : Bool) (c : Bool) (B : ad8) (a : SV) (s : List (List Value)) (p1 : ByteArray) (m : Bool) (n : ad8) (H : rI z y x w u A b c B p1 = some (m, n)) (K : Kp) (G : List Ent) (ad : Slr (Ty.sl gK) K (sv j) z) (ac : Slr f5 K (sv i) y) (ab : Slr ib K (sv h) x) (aa : Slr (Ty.sl Ty.bool) K (sv g) w) (Y : Slr Ty.bool K (sv f) u) (ae : Slr fN K (sv k) A) (e : RowR Ty.str K s B) :
  Fc Tryz.prog 47 #[(Vp d), (.string p1)] K ((.blk d 76 [(sv j), (sv i), (sv h), (sv g), (sv f), (sv k), (.bool b), (.bool c), (sv a)]) :: (.row (sv a) 9 1 s.flatten) :: G) (fun v t o => ∃ (L : SV) (J : List (List Value)), v = (.bool m) ∧ (.blk d 76 [(sv j), (sv i), (sv h), (sv g), (sv f), (sv k), (.bool b), (.bool c), (sv L)]) :: (.row (sv L) 9 1 J.flatten) :: G = o ∧ RowR Ty.str t J n) := by
 refine fO Tryz.func47 rfl Tryz.ntmps47 Tryz.results47 rfl ?_
 unfold rI at H
 refine fc<|fa<|Ea Z<|fb<|?_
 refine fz (fun C t o => [(0, (Vp d)), (1, (.string p1))] = C ∧ (.blk d 76 [(sv j), (sv i), (sv h), (sv g), (sv f), (sv k), (.bool b), (.bool c), (sv a)]) :: (.row (sv a) 9 1 s.flatten) :: G = o ∧ vM p1 z y x w u A b c B = some (m, n)) ?_ ?_
 ·refine fc<|fa<|Ea Z<|fb<|fB<|?_
  refine f8 (fun n77 C t o => ∃ (r : Int), [(0, (Vp d)), (1, (.string p1)), (5, (Vi r))] = C ∧ K = t ∧ (.blk d 76 [(sv j), (sv i), (sv h), (sv g), (sv f), (sv k), (.bool b), (.bool c), (sv a)]) :: (.row (sv a) 9 1 s.flatten) :: G = o ∧ lp1 (vN p1 z y x w u A b c B) n77 r = some (m, n)) BIG ?_ ?_
  ·exact Pu1<|Pu1<|Sd<|⟨_, by exact R3, 0, rfl, rfl, rfl, H⟩
  rintro n77 _ _ _ - ⟨r, rfl, rfl, rfl, H⟩
  obtain ⟨ag, af, rfl, R, H⟩ := nr H
  unfold vN at H
  refine fc<|fc<|fa<|Em Z<|Em Z<|Eq Z (fD rfl)<|EF 8 Z<|El (sv a) Z (Rb0 Z)<|Eq Z (lx (T := Ty.str) Mb1 e rfl rfl rfl)<|Ec Z<|fb<|?_
  refine fm rfl ?_ ?_
  ·intro p
   obtain ⟨p, H⟩ := It p H
   refine ft<|fc<|fB<|fc<|fa<|Em Z<|Eq Z (fD rfl)<|EF 8 Z<|El (sv a) Z (Rb0 Z)<|Em Z<|?_
   obtain ⟨X, I, H⟩ := bnd H
   obtain ⟨ah, F, S⟩ := RowR.at e I
   obtain rfl := S
   refine Eq Z (gy (T := Ty.str) Mb1 e F (fK I).1 rfl rfl rfl rfl rfl)<|El (.string X) Z (gP (T := Ty.str) Mb1 e F rfl rfl)<|Em Z<|Eq Z (Bi rfl rfl)<|fb<|?_
   refine fm rfl ?_ ?_
   ·intro q
    obtain ⟨q, H⟩ := It q H
    refine fc<|fa<|Ea Z<|fb<|fy<|?_
    obtain ⟨N, O⟩ := hX H
    subst m n
    refine ⟨(.inl rfl), [(.bool true)], ⟨(.bool true), _, rfl, rfl, rfl⟩, ?_⟩
    exact Pu1<|Pu1<|Sd<|⟨a, s, rfl, rfl, e⟩
   ·intro q
    obtain ⟨q, H⟩ := If q H
    exact ft<|fa<|Em Z<|Er (wI (r + 1)) Z<|Ea Z<|fb<|Pu1<|Pu1<|Sd<|⟨_, by exact R3, _, Nat.lt_succ_self _, (wI (r + 1)), rfl, rfl, rfl, (R ▸ H)⟩
  ·intro p
   obtain ⟨p, H⟩ := If p H
   exact ga<|Pu1<|Pu1<|Sd<|⟨_, by exact R2, rfl, rfl, H⟩
 rintro _ M _ P ⟨rfl, rfl, H⟩
 unfold vM at H
 refine fc<|fa<|Em Z<|Em Z<|Eq Z (fD rfl)<|EF 8 Z<|El (sv a) Z (Rb0 Z)<|Em Z<|?_
 have E : RowR Ty.str M [[(.string p1)]] [p1] := RowR.cons rfl (RowR.nil)
 refine ff rfl (gg (T := Ty.str) (rows := [[(.string p1)]]) (l := [p1]) rfl rfl rfl E rfl rfl rfl rfl rfl rfl rfl rfl (fun ai => ?_))
 obtain ⟨aj, V, H⟩ := bnd H
 have U := e.mono P
 refine ff rfl (gW (T := Ty.str) (bytes := 16) rfl rfl rfl Mb2 U (SrcT.row Mb0 E rfl) V rfl rfl rfl rfl rfl rfl rfl rfl (fun D W Q => ⟨_, (.there (.there .here)), ?_⟩))
 refine Ow.shift (Re0 (Sd ?_))
 refine Eq Z (fD rfl)<|EF 8 Z<|?_
 refine ff rfl (So [(sv D)] [(sv j), (sv i), (sv h), (sv g), (sv f), (sv k), (.bool b), (.bool c), (sv D)] Z .here Z ?_)
 refine fb<|fc<|fa<|Ea Z<|fb<|fy<|?_
 obtain ⟨N, O⟩ := hX H
 subst m n
 refine ⟨(.inl rfl), [(.bool false)], ⟨(.bool false), _, rfl, rfl, rfl⟩, ?_⟩
 exact Pu1<|Pu1<|Sd<|⟨D, W, rfl, rfl, Q⟩
theorem xw (d : Nat) (w : ae3) (p : SV) (u : ad6) (o : SV) (t : ae5) (n : SV) (s : af4) (h : SV) (r : ae0) (g : SV) (x : ad5) (q : SV) (a : Bool) (c : Bool) (y : ad8) (b : SV) (m : List (List Value)) (p1 : ae0) (B : SV) (p2 : Int) (f : Bool) (H : oG w u t s r x a c y p1 p2 = some f) (K : Kp) (G : List Ent) (ao : Slr (Ty.sl gK) K (sv p) w) (an : Slr f5 K (sv o) u) (am : Slr ib K (sv n) t) (O : Slr (Ty.sl Ty.bool) K (sv h) s) (N : Slr Ty.bool K (sv g) r) (ap : Slr fN K (sv q) x) (aq : RowR Ty.str K m y) (A : Slr Ty.bool K (sv B) p1) :
  Fc Tryz.prog 49 #[(Vp d), (sv B), (Vi p2)] K ((.blk d 76 [(sv p), (sv o), (sv n), (sv h), (sv g), (sv q), (.bool a), (.bool c), (sv b)]) :: (.row (sv b) 9 1 m.flatten) :: G) (fun v i e => v = (.bool f) ∧ (.blk d 76 [(sv p), (sv o), (sv n), (sv h), (sv g), (sv q), (.bool a), (.bool c), (sv b)]) :: (.row (sv b) 9 1 m.flatten) :: G = e) := by
 refine fO Tryz.func49 rfl Tryz.ntmps49 Tryz.results49 rfl ?_
 unfold oG at H
 refine fc<|fa<|Ea Z<|fb<|fc<|?_
 refine fz (fun j i e => ∃ (J : Bool), [(0, (Vp d)), (1, (sv B)), (2, (Vi p2)), (27, (.bool J))] = j ∧ K = i ∧ (.blk d 76 [(sv p), (sv o), (sv n), (sv h), (sv g), (sv q), (.bool a), (.bool c), (sv b)]) :: (.row (sv b) 9 1 m.flatten) :: G = e ∧ mU p1 p2 w u t s r x a c y J = some f) ?_ ?_
 ·refine fa<|Em Z<|Em Z<|?_
  obtain ⟨ai, Q, H⟩ := bnd H
  obtain ⟨_, rfl, Y⟩ := Slr.at A Q
  refine Eq Z (Qi (T := Ty.bool) A Q Z)<|El (.bool ai) Z (Rdc.k Y rfl)<|Em Z<|?_
  refine Ee Z ?_ ?_
  ·intro C
   have H := ift C H
   exact Ez Z<|Ez Z<|Ez Z<|Ez Z<|Ez Z<|gb rfl rfl rfl rfl rfl<|gb rfl rfl rfl rfl rfl<|gb rfl rfl rfl rfl rfl<|gb rfl rfl rfl rfl rfl<|gb rfl rfl rfl rfl rfl<|gb rfl rfl rfl rfl rfl<|gb rfl rfl rfl rfl rfl<|gb rfl rfl rfl rfl rfl<|Ez Z<|Et Z<|fb<|Pu1<|Pu1<|Sd<|⟨_, by exact R4, true, rfl, rfl, rfl, H⟩
  ·intro C
   have H := f0 (btf C) H
   refine Vm Z<|Vq Z (fD rfl)<|VF 6 Z<|Vl (.bool a) Z (Rb0 Z)<|Vm Z<|?_
   refine Ee Z ?_ ?_
   ·intro D
    have H := ift D H
    refine Vm Z<|Vq Z (fD rfl)<|VF 4 Z<|Vl (sv g) Z (Rb0 Z)<|Vm Z<|?_
    obtain ⟨W, R, H⟩ := bnd H
    obtain ⟨_, rfl, aa⟩ := Slr.at N R
    exact Vq Z (Qi (T := Ty.bool) N R Z)<|Vl (.bool W) Z (Rdc.k aa rfl)<|Vq Z (gd rfl)<|Vt Z<|Ef Z<|fb<|Pu1<|Pu1<|Sd<|⟨_, by exact R4, (!(W)), rfl, rfl, rfl, H⟩
   ·intro D
    have H := f0 (btf D) H
    exact Ez Z<|Ez Z<|Ez Z<|Ez Z<|Ez Z<|Ez Z<|Ez Z<|Ez Z<|Vf Z<|Ef Z<|fb<|Pu1<|Pu1<|Sd<|⟨_, by exact R4, false, rfl, rfl, rfl, H⟩
 rintro _ _ _ - ⟨J, rfl, rfl, rfl, H⟩
 unfold mU at H
 refine fm rfl ?_ ?_
 ·intro E
  have H := ift E H
  refine fc<|fa<|Ea Z<|fb<|fy<|?_
  obtain M := gm H
  subst f
  refine ⟨(.inl rfl), [(.bool false)], ⟨(.bool false), _, rfl, rfl, rfl⟩, ?_⟩
  exact Pu1<|Pu1<|Sd<|⟨rfl, rfl⟩
 ·intro E
  have H := f0 (btf E) H
  refine ft ?_
  refine fz (fun j i e => [] = j ∧ (.blk d 76 [(sv p), (sv o), (sv n), (sv h), (sv g), (sv q), (.bool a), (.bool c), (sv b)]) :: (.row (sv b) 9 1 m.flatten) :: G = e ∧ vO w u t s r x a c y = some f) ?_ ?_
  ·refine fc<|fa<|Ea Z<|fb<|fB<|?_
   refine f8 (fun n218 j i e => ∃ (l : Int), [(0, (Vp d)), (1, (sv B)), (2, (Vi p2)), (7, (Vi l))] = j ∧ K = i ∧ (.blk d 76 [(sv p), (sv o), (sv n), (sv h), (sv g), (sv q), (.bool a), (.bool c), (sv b)]) :: (.row (sv b) 9 1 m.flatten) :: G = e ∧ lp1 (vP p1 p2 w u t s r x a c y) n218 l = some f) BIG ?_ ?_
   ·exact Pu1<|Pu1<|Sd<|⟨_, by exact R4, 0, rfl, rfl, rfl, H⟩
   rintro n218 _ _ _ - ⟨l, rfl, rfl, rfl, H⟩
   obtain ⟨ar, ag, rfl, ae, H⟩ := nr H
   unfold vP at H
   refine fc<|fc<|fa<|Em Z<|Em Z<|Eq Z (ge (T := Ty.bool) A rfl rfl)<|Ec Z<|fb<|?_
   refine fm rfl ?_ ?_
   ·intro z
    obtain ⟨z, H⟩ := It z H
    refine ft<|fc<|fB<|?_
    refine fz (fun j i e => ∃ (L : Bool), [(0, (Vp d)), (1, (sv B)), (2, (Vi p2)), (7, (Vi l)), (50, (.bool L))] = j ∧ K = i ∧ (.blk d 76 [(sv p), (sv o), (sv n), (sv h), (sv g), (sv q), (.bool a), (.bool c), (sv b)]) :: (.row (sv b) 9 1 m.flatten) :: G = e ∧ su p1 p2 l w u t s r x a c y ag L = some f) ?_ ?_
    ·refine fa<|Em Z<|Eq Z (fD rfl)<|EF 3 Z<|El (sv h) Z (Rb0 Z)<|Em Z<|?_
     obtain ⟨av, S, H⟩ := bnd H
     obtain ⟨au, af, ab⟩ := Slr.at O S
     obtain ⟨ah, rfl, P⟩ := af
     refine Eq Z (Qi (T := (Ty.sl Ty.bool)) O S Z)<|El (sv ah) Z (Rdc.k ab rfl)<|Em Z<|?_
     obtain ⟨aj, U, H⟩ := bnd H
     obtain ⟨_, rfl, ac⟩ := Slr.at P U
     refine Eq Z (Qi (T := Ty.bool) P U Z)<|El (.bool aj) Z (Rdc.k ac rfl)<|Em Z<|?_
     refine Ee Z ?_ ?_
     ·intro F
      have H := ift F H
      refine Vm Z<|Vm Z<|?_
      obtain ⟨X, V, H⟩ := bnd H
      obtain ⟨_, rfl, ad⟩ := Slr.at A V
      exact Vq Z (Qi (T := Ty.bool) A V Z)<|Vl (.bool X) Z (Rdc.k ad rfl)<|Vq Z (gd rfl)<|Et Z<|fb<|Pu1<|Pu1<|Sd<|⟨_, by exact R5, (!(X)), rfl, rfl, rfl, H⟩
     ·intro F
      have H := f0 (btf F) H
      exact Ez Z<|Ez Z<|Ez Z<|Ez Z<|Ez Z<|Ef Z<|fb<|Pu1<|Pu1<|Sd<|⟨_, by exact R5, false, rfl, rfl, rfl, H⟩
    rintro _ _ _ - ⟨L, rfl, rfl, rfl, H⟩
    unfold su at H
    refine fm rfl ?_ ?_
    ·intro I
     have H := ift I H
     refine fc<|fa<|Ea Z<|fb<|fy<|?_
     obtain M := gm H
     subst f
     refine ⟨(.inl rfl), [(.bool false)], ⟨(.bool false), _, rfl, rfl, rfl⟩, ?_⟩
     exact Pu1<|Pu1<|Sd<|⟨rfl, rfl⟩
    ·intro I
     have H := f0 (btf I) H
     exact ft<|fa<|Em Z<|Er (wI (l + 1)) Z<|Ea Z<|fb<|Pu1<|Pu1<|Sd<|⟨_, by exact R4, _, Nat.lt_succ_self _, (wI (l + 1)), rfl, rfl, rfl, (ae ▸ H)⟩
   ·intro z
    obtain ⟨z, H⟩ := If z H
    exact ga<|Pu1<|Pu1<|Sd<|⟨[], trivial, rfl, rfl, H⟩
  rintro _ ak _ al ⟨rfl, rfl, H⟩
  unfold vO at H
  refine fc<|fa<|Ea Z<|fb<|fy<|?_
  obtain M := gm H
  subst f
  refine ⟨(.inl rfl), [(.bool true)], ⟨(.bool true), _, rfl, rfl, rfl⟩, ?_⟩
  exact Pu1<|Pu1<|Sd<|⟨rfl, rfl⟩
theorem Cb (e : Nat) (x : ae3) (n : SV) (w : ad6) (m : SV) (u : ae5) (j : SV) (t : af4) (i : SV) (s : ae0) (a : SV) (y : ad5) (b : SV) (f : Bool) (g : Bool) (z : ad8) (c : SV) (h : List (List Value)) (p1 : ad0) (C : SV) (p2 : Int) (o : ad5) (H : rJ x w u t s y f g z p1 p2 = some o) (K : Kp) (G : List Ent) (U : Slr (Ty.sl gK) K (sv n) x) (S : Slr f5 K (sv m) w) (R : Slr ib K (sv j) u) (Q : Slr (Ty.sl Ty.bool) K (sv i) t) (q : Slr Ty.bool K (sv a) s) (r : Slr fN K (sv b) y) (V : RowR Ty.str K h z) (W : Slr fG K (sv C) p1) :
  Fc Tryz.prog 50 #[(Vp e), (sv C), (Vi p2)] K ((.blk e 76 [(sv n), (sv m), (sv j), (sv i), (sv a), (sv b), (.bool f), (.bool g), (sv c)]) :: (.row (sv c) 9 1 h.flatten) :: G) (fun v M L => ∃ (D : SV), v = (sv D) ∧ (.blk e 76 [(sv n), (sv m), (sv j), (sv i), (sv a), (sv b), (.bool f), (.bool g), (sv c)]) :: (.tok 38 5 [(sv D)]) :: (.row (sv c) 9 1 h.flatten) :: G = L ∧ Slr fN M (sv D) o) := by
 refine fO Tryz.func50 rfl Tryz.ntmps50 Tryz.results50 rfl ?_
 unfold rJ at H
 refine fc<|fa<|Ea Z<|fb<|fc<|fc<|fa<|Em Z<|Eq Z (fD rfl)<|EF 4 Z<|El (sv a) Z (Rb0 Z)<|Em Z<|?_
 obtain ⟨ag, F, H⟩ := bnd H
 obtain ⟨_, rfl, O⟩ := Slr.at q F
 refine Eq Z (Qi (T := Ty.bool) q F Z)<|El (.bool ag) Z (Rdc.k O rfl)<|fb<|?_
 refine fm rfl ?_ ?_
 ·intro p
  have H := ift p H
  refine fc<|fa<|Em Z<|Eq Z (fD rfl)<|EF 5 Z<|El (sv b) Z (Rb0 Z)<|Em Z<|?_
  obtain ⟨d, I, H⟩ := bnd H
  obtain ⟨_, rfl, P⟩ := Slr.at r I
  refine Eq Z (Qi (T := fN) r I Z)<|EL 5 (fe d) Z (Rdc.k P rfl)<|?_
  have E : RowR fN K [(fe d)] [d] := RowR.cons rfl (RowR.nil)
  refine ff rfl (gg (T := fN) (rows := [(fe d)]) (l := [d]) rfl rfl rfl E rfl rfl rfl rfl rfl rfl rfl rfl (fun A => ?_))
  refine Ea Z<|fb<|fy<|?_
  obtain N := gm H
  subst o
  refine ⟨(.inl rfl), [(sv A)], ⟨(sv A), _, rfl, rfl, rfl⟩, ?_⟩
  refine Shift.settle (T := fN) .here E rfl ?_
  intro ai ak X
  exact Pu2<|Pu1<|Pu2<|Sd<|⟨A, rfl, rfl, X⟩
 ·intro p
  have H := f0 (btf p) H
  refine ft<|fc<|fa<|Em Z<|Em Z<|Em Z<|?_
  obtain ⟨J, ac, H⟩ := bnd H
  refine Ow.shift (Pu1 (Sd ?_))
  refine Ow.shift (Pu1 (Sd ?_))
  refine ff rfl (Ek Tryz.call52 Z (m8 e x n w m u j t i s a y b f g z c h p2 J ac _ _ U S R Q q r V) ?_)
  rintro _ _ _ - ⟨ae, af, rfl, rfl, rfl, Y, aa⟩
  obtain ⟨ah, ad, H⟩ := bnd H
  refine ff rfl (Ek Tryz.call84 Z (xr p1 C J ae af ah ad _ _ W Y aa) ?_)
  rintro _ aj _ al ⟨B, rfl, rfl, ab⟩
  refine Ea Z<|fb<|fy<|?_
  obtain N := gm H
  subst o
  refine ⟨(.inl rfl), [(sv B)], ⟨(sv B), _, rfl, rfl, rfl⟩, ?_⟩
  exact Pu2<|Pu1<|Pu2<|Sd<|⟨B, rfl, rfl, ab⟩
theorem wu (p0 : ae0) (h : SV) (p1 : Int) (d : ae0) (H : sw p0 p1 = some d) (K : Kp) (G : List Ent) (m : Slr Ty.bool K (sv h) p0) :
  Fc Tryz.prog 53 #[(sv h), (Vi p1)] K (G) (fun v e j => ∃ (i : SV) (g : List (List Value)), v = (sv i) ∧ K = e ∧ (.row (sv i) 4 1 g.flatten) :: G = j ∧ RowR Ty.bool e g d) := by
 refine fO Tryz.func53 rfl Tryz.ntmps53 Tryz.results53 rfl ?_
 unfold sw at H
 refine fc<|fa<|Ea Z<|fb<|fc<|fa<|Em Z<|?_
 have k : RowR Ty.bool K [] [] := RowR.nil
 refine Ow.shift (Shift.nilRow 4 1 (Sd ?_))
 obtain ⟨x15, o, H⟩ := bnd H
 refine ff rfl (gW (T := Ty.bool) (bytes := 1) rfl rfl rfl Mb0 k (SrcT.sl m) o rfl rfl rfl rfl rfl rfl rfl rfl (fun c p a => ⟨_, .here, ?_⟩))
 refine Ea Z<|fb<|fc<|fa<|Em Z<|Em Z<|?_
 obtain ⟨s, f, H⟩ := bnd H
 obtain ⟨r22, b, n⟩ := RowR.at a f
 obtain rfl := n
 refine Eq Z (gy (T := Ty.bool) Mb0 a b (fK f).1 rfl rfl rfl rfl rfl) ?_
 refine ff rfl (gV (T := Ty.bool) (vs := [(.bool true)]) (r' := [(.bool true)]) (l' := (f6 x15 p1 true)) rfl rfl rfl rfl rfl .here a b rfl rfl rfl (RowR.set p1 a rfl) (fun l => ?_))
 have r := iV b (v := [(.bool true)])
 refine fb<|fc<|fa<|Em Z<|Ea Z<|fb<|fy<|?_
 obtain q := gm H
 subst d
 refine ⟨(.inl rfl), [(sv c)], ⟨(sv c), _, rfl, rfl, rfl⟩, ?_⟩
 exact Sd ⟨c, (p.set p1.toNat [(.bool true)]), rfl, rfl, rfl, l⟩
end Go.Hx
