
import Derived.Test.YtphoeijgpmlbpaaGreatDoorXZM
import Derived.Test.YtphoeijgpmlbpaaGreatDoorXZWDraw
import Derived.Test.YtphoeijgpmlbpaaGreatDoorXZWLaw171
import Derived.Test.YtphoeijgpmlbpaaGreatDoorXZWHistory
set_option linter.unusedVariables false
set_option linter.unusedSimpArgs false
namespace Go.Hx
open Go Go.Proofs
set_option maxRecDepth 10000
set_option maxHeartbeats 1000000
theorem Dk (p0 : ad0) (J : SV) (p1 : ae3) (z : SV) (p2 : ad4) (g : SV) (p3 : ad8) (A : SV) (p4 : ae1) (B : SV) (h : Bool) (H : si p0 p1 p2 p3 p4 = some h) (K : Kp) (G : List Ent) (aB : Slr fF K (sv J) p0) (aC : Slr (Ty.sl gC) K (sv z) p1) (N : Slr f4 K (sv g) p2) (aD : Slr fP K (sv A) p3) (aE : Slr gr K (sv B) p4) :
  Fc Tryz.prog 36 #[(sv J), (sv z), (sv g), (sv A), (sv B)] K (G) (fun v u f => v = (.bool h) ∧ G = f) := by
 refine fN Tryz.func36 rfl Tryz.ntmps36 Tryz.results36 rfl ?_
 unfold si at H
 refine fc<|fa<|Ea Z<|fb<|?_
 refine fz (fun o u f => [] = o ∧ G = f ∧ wL = some h) ?_ ?_
 ·refine fc<|fa<|Ea Z<|fb<|fA<|?_
  refine f7 (fun ac o u f => ∃ (n : SV) (l : ad0) (a : Int), [(0, (sv n)), (1, (sv z)), (2, (sv g)), (3, (sv A)), (4, (sv B)), (11, (Vi a))] = o ∧ G = f ∧ lp2 (wM p1 p2 p3 p4) ac l a = some h ∧ Slr fF u (sv n) l) BIG ?_ ?_
  ·exact Sd ⟨_, by exact R6, J, p0, 0, rfl, rfl, H, aB⟩
  rintro ac _ a4 _ s ⟨n, l, a, rfl, rfl, H, R⟩
  obtain ⟨a8, aS, rfl, M, H⟩ := jL H
  unfold wM at H
  refine fc<|fc<|fa<|Em Z<|Em Z<|?_
  have j := aD.mono s
  refine Eq Z (gg (T := fP) j rfl rfl)<|Ec Z<|fb<|?_
  refine fm rfl ?_ ?_
  ·intro r
   obtain ⟨r, H⟩ := It r H
   refine ft<|fc<|fA<|fc<|fc<|?_
   obtain ⟨aV, S, H⟩ := bnd H
   obtain ⟨bb, U, H⟩ := bnd H
   obtain ⟨aW, V, H⟩ := bnd H
   obtain ⟨af, W, H⟩ := bnd H
   obtain ⟨ag, X, H⟩ := bnd H
   obtain ⟨ah, aX, aQ, H⟩ := ir H
   refine fq _ rfl In0<|Jm 0 Z<|Jm 1 Z<|Jm 2 Z<|Jm 3 Z<|?_
   have i := aE.mono s
   obtain ⟨_, rfl, ao⟩ := Slr.at i S
   refine Jq 4 Z (Qi (T := gr) i S Z)<|Jq 5 Z (ic (q := 0) (m := 0) rfl rfl rfl rfl rfl (by decide) rfl (by decide))<|Jl 6 (Vi aV.x0) Z (Rdc.k ao rfl)<|?_
   have O := aC.mono s
   obtain ⟨a9, aF, ap⟩ := Slr.at O U
   obtain ⟨aT, rfl, P⟩ := aF
   refine Jq 7 Z (Qi (T := (Ty.sl gC)) O U Z)<|Jl 8 (sv aT) Z (Rdc.k ap rfl)<|Jm 9 Z<|Jm 10 Z<|?_
   obtain ⟨_, rfl, aq⟩ := Slr.at i V
   refine Jq 11 Z (Qi (T := gr) i V Z)<|Jq 12 Z (ic (q := 1) (m := 1) rfl rfl rfl rfl rfl (by decide) rfl (by decide))<|Jl 13 (Vi aW.x1) Z (Rdc.k aq rfl)<|?_
   obtain ⟨ba, aG, ar⟩ := Slr.at P W
   obtain ⟨ad, ae, rfl, aH, aI⟩ := aG
   refine Jq 14 Z (Qi (T := gC) P W Z)<|JL 15 7 (fh af ad ae) Z (Rdc.k ar rfl)<|Jm 16 Z<|Jm 17 Z<|?_
   obtain ⟨_, rfl, au⟩ := Slr.at j X
   refine Jq 18 Z (Qi (T := fP) j X Z)<|JF 19 1 Z<|JL 20 5 (fe ag.result) Z (Rdc.k au rfl)<|?_
   refine Ao 21 Z ?_
   refine Ek Tryz.call51 Z (qt l n af ad ae ag.result ah aX aQ _ _ R aH aI) ?_
   rintro _ aY _ c ⟨aU, rfl, rfl, aJ⟩
   refine ⟨In0, ?_⟩
   refine Jm 22 Z<|Jx 23 Z<|Jx 24 Z<|Ja 25 Z<|Ja 26 Z<|Ad<|fc<|fa<|Em Z<|fb<|?_
   refine fm rfl ?_ ?_
   ·intro E
    have H := ift E H
    exact fc<|fa<|Em Z<|Ea Z<|fb<|f9<|fa<|Em Z<|Er (wI (a + 1)) Z<|Ea Z<|fb<|Sd<|⟨_, by exact R6, _, Nat.lt_succ_self _, aU, ah, (wI (a + 1)), rfl, rfl, (M ▸ H), aJ⟩
   ·intro E
    have H := fX (btf E) H
    refine ft<|fc<|?_
    refine fz (fun o u f => ∃ (I : Bool), [(0, (sv n)), (1, (sv z)), (2, (sv g)), (3, (sv A)), (4, (sv B)), (11, (Vi a)), (77, (.bool I))] = o ∧ G = f ∧ o9 l p1 p2 p3 p4 a aS I = some h) ?_ ?_
    ·rcases gR (dcd ((wI (a + 1)) ≥ (p3.length : Int))) with t | t <;> revert t
     ·intro b
      obtain ⟨b, H⟩ := It b H
      refine fq _ rfl In0<|Jm 0 Z<|Jr 1 (wI (a + 1)) Z<|Jm 2 Z<|?_
      have aK := j.mono c
      refine Jq 3 Z (gg (T := fP) aK rfl rfl)<|Jc 4 Z<|Jm 5 Z<|Aw.known (d := 52) rfl (hZ b)<|Jz 6 Z<|Jz 7 Z<|Jz 8 Z<|Jz 9 Z<|Jz 10 Z<|Jz 11 Z<|Jz 12 Z<|Jz 13 Z<|Jz 14 Z<|Jz 15 Z<|Jz 16 Z<|Jt 17 Z<|Jm 18 Z<|Jz 19 Z<|Jz 20 Z<|Jz 21 Z<|Jz 22 Z<|Jz 23 Z<|?_
      exact Jz 24 Z<|Jz 25 Z<|Jz 26 Z<|Jz 27 Z<|Jz 28 Z<|Jz 29 Z<|Jt 30 Z<|Ad<|Sd<|⟨_, by exact R7, true, rfl, rfl, H⟩
     ·intro b
      obtain ⟨b, H⟩ := If b H
      obtain ⟨C, x, H⟩ := bnd H
      obtain ⟨D, y, H⟩ := bnd H
      obtain ⟨L, Y, H⟩ := bnd H
      rcases gR L with t | t <;> revert t
      ·intro p
       have H := ift p H
       refine fq _ rfl In0<|Jm 0 Z<|Jr 1 (wI (a + 1)) Z<|Jm 2 Z<|?_
       have aL := j.mono c
       refine Jq 3 Z (gg (T := fP) aL rfl rfl)<|Jc 4 Z<|Jm 5 Z<|Aw.known (d := 52) rfl (iq b)<|Bm 6 Z<|Bm 7 Z<|Bm 8 Z<|?_
       have w := i.mono c
       obtain ⟨_, rfl, av⟩ := Slr.at w x
       refine Bq 9 Z (Qi (T := gr) w x Z)<|BL 10 2 (gb C) Z (Rdc.k av rfl)<|Bm 11 Z<|Bm 12 Z<|Br 13 (wI (a + 1)) Z<|?_
       obtain ⟨_, rfl, aw⟩ := Slr.at w y
       refine Bq 14 Z (Qi (T := gr) w y Z)<|BL 15 2 (gb D) Z (Rdc.k aw rfl)<|?_
       refine gB 16 (by kernel_rfl) (jJ rfl rfl rfl rfl rfl ?_)
       have aM := (N.mono s).mono c
       refine Ek Tryz.call35 Z (lr p2 g C D L Y _ _ aM) ?_
       rintro _ aZ _ a5 ⟨rfl, rfl⟩
       refine ⟨In0, ?_⟩
       exact Jf 17 Z<|Jm 18 Z<|Aw.known (d := 65) rfl (p)<|Jz 19 Z<|Jz 20 Z<|Jz 21 Z<|Jz 22 Z<|Jz 23 Z<|Jz 24 Z<|Jz 25 Z<|Jz 26 Z<|Jz 27 Z<|Jz 28 Z<|Jz 29 Z<|Jt 30 Z<|Ad<|Sd<|⟨_, by exact R7, true, rfl, rfl, H⟩
      ·intro p
       have H := fX (btf p) H
       obtain ⟨ai, aa, H⟩ := bnd H
       obtain ⟨aj, ab, H⟩ := bnd H
       obtain ⟨ak, aR, H⟩ := bnd H
       refine fq _ rfl In0<|Jm 0 Z<|Jr 1 (wI (a + 1)) Z<|Jm 2 Z<|?_
       have aN := j.mono c
       refine Jq 3 Z (gg (T := fP) aN rfl rfl)<|Jc 4 Z<|Jm 5 Z<|Aw.known (d := 52) rfl (iq b)<|Bm 6 Z<|Bm 7 Z<|Bm 8 Z<|?_
       have e := i.mono c
       obtain ⟨_, rfl, ax⟩ := Slr.at e x
       refine Bq 9 Z (Qi (T := gr) e x Z)<|BL 10 2 (gb C) Z (Rdc.k ax rfl)<|Bm 11 Z<|Bm 12 Z<|Br 13 (wI (a + 1)) Z<|?_
       obtain ⟨_, rfl, ay⟩ := Slr.at e y
       refine Bq 14 Z (Qi (T := gr) e y Z)<|BL 15 2 (gb D) Z (Rdc.k ay rfl)<|?_
       refine gB 16 (by kernel_rfl) (jJ rfl rfl rfl rfl rfl ?_)
       have Q := (N.mono s).mono c
       refine Ek Tryz.call35 Z (lr p2 g C D L Y _ _ Q) ?_
       rintro _ a0 _ am ⟨rfl, rfl⟩
       refine ⟨In0, ?_⟩
       refine Jf 17 Z<|Jm 18 Z<|Aw.known (d := 65) rfl (p)<|Bm 19 Z<|Bm 20 Z<|Bm 21 Z<|Br 22 (wI (a + 1)) Z<|?_
       obtain ⟨_, rfl, az⟩ := Slr.at e aa
       refine Bq 23 Z (Qi (T := gr) e aa Z)<|BL 24 2 (gb ai) Z (Rdc.k az rfl)<|Bm 25 Z<|Bm 26 Z<|?_
       obtain ⟨_, rfl, aA⟩ := Slr.at e ab
       refine Bq 27 Z (Qi (T := gr) e ab Z)<|BL 28 2 (gb aj) Z (Rdc.k aA rfl)<|?_
       refine gB 29 (by kernel_rfl) (jJ rfl rfl rfl rfl rfl ?_)
       have aO := Q.mono am
       refine Ek Tryz.call35 Z (lr p2 g ai aj ak aR _ _ aO) ?_
       rintro _ a1 _ a6 ⟨rfl, rfl⟩
       refine ⟨In0, ?_⟩
       exact Jf 30 Z<|Ad<|Sd<|⟨_, by exact R7, ak, rfl, rfl, H⟩
    rintro _ a2 _ an ⟨I, rfl, rfl, H⟩
    unfold o9 at H
    refine fm rfl ?_ ?_
    ·intro F
     have H := ift F H
     refine fc<|fa<|Ea Z<|fb<|fx<|?_
     obtain al := gn H
     subst h
     refine ⟨(.inl rfl), [(.bool false)], ⟨(.bool false), _, rfl, rfl, rfl⟩, ?_⟩
     exact Sd ⟨rfl, rfl⟩
    ·intro F
     have H := fX (btf F) H
     refine ft<|fa<|Em Z<|Er (wI (a + 1)) Z<|Ea Z<|fb<|fa<|Em Z<|Er (wI ((wI (a + 1)) + 1)) Z<|Ea Z<|fb<|?_
     have aP := (R.mono c).mono an
     exact Sd ⟨_, by exact R6, _, Nat.lt_succ_self _, n, l, (wI ((wI (a + 1)) + 1)), rfl, rfl, (M ▸ H), aP⟩
  ·intro r
   obtain ⟨r, H⟩ := If r H
   exact f9<|Sd<|⟨[], trivial, rfl, rfl, H⟩
 rintro _ a3 _ a7 ⟨rfl, rfl, H⟩
 unfold wL at H
 refine fc<|fa<|Ea Z<|fb<|fx<|?_
 obtain al := gn H
 subst h
 refine ⟨(.inl rfl), [(.bool true)], ⟨(.bool true), _, rfl, rfl, rfl⟩, ?_⟩
 exact Sd ⟨rfl, rfl⟩
theorem Dl (p0 : fM) (n : SV) (o : SV) (p1 : ae3) (u : SV) (p2 : ad4) (g : SV) (p3 : ad8) (p : SV) (h : Bool) (H : sq p0 p1 p2 p3 = some h) (K : Kp) (G : List Ent) (aZ : Slr Ty.i64 K (sv n) p0.capacities) (a0 : Slr Ty.u64 K (sv o) p0.starts) (bX : Slr (Ty.sl gC) K (sv u) p1) (ax : Slr f4 K (sv g) p2) (bY : Slr fP K (sv p) p3) :
  Fc Tryz.prog 15 #[(.agg (fp p0 n o).toArray), (sv u), (sv g), (sv p)] K (G) (fun v j a => v = (.bool h) ∧ G = a) := by
 refine fN Tryz.func15 rfl Tryz.ntmps15 Tryz.results15 rfl ?_
 unfold sq at H
 refine fc<|fa<|?_
 refine ff rfl (fR (cs := (fp p0 n o)) rfl rfl rfl (fun c => ?_))
 refine Ea Z<|fb<|fc<|fc<|fa<|EL 3 (fp p0 n o) Z (Rb0 Z)<|?_
 obtain ⟨bH, ct, H⟩ := bnd H
 refine ff rfl (Ek Tryz.call27 Z (pm p0 n o bH ct _ _ aZ a0) ?_)
 rintro _ c1 _ L ⟨cC, dx, rfl, rfl, cg⟩
 refine Em Z<|Em Z<|?_
 refine Ow.shift (Shift.settle (T := fF) .here cg rfl (fun c2 M ch => Sd ?_))
 obtain ⟨cF, cG, cu, H⟩ := ir H
 have bc := (bX.mono L).mono M
 have aL := (bY.mono L).mono M
 refine ff rfl (Ek Tryz.call31 Z (Di bH cC p1 u p3 p cF cG cu _ _ ch bc aL) ?_)
 rintro _ c3 _ E ⟨dy, rfl, rfl, di⟩
 refine Em Z<|Ex Z<|Ex Z<|Ea Z<|Ea Z<|fb<|fc<|fa<|Em Z<|Eq Z (gi rfl)<|fb<|?_
 refine fm rfl ?_ ?_
 ·intro S
  have S := ix S
  have H := fX (btf S) H
  refine fc<|fa<|Ea Z<|fb<|fx<|?_
  obtain Q := gn H
  subst h
  refine ⟨(.inl rfl), [(.bool false)], ⟨(.bool false), _, rfl, rfl, rfl⟩, ?_⟩
  exact Re0<|Re0<|Re0<|Sd<|⟨rfl, rfl⟩
 ·intro S
  have S := iw S
  have H := ift S H
  refine ft<|fc<|fa<|Em Z<|?_
  have aM := bc.mono E
  refine Eq Z (gg (T := (Ty.sl gC)) aM rfl rfl) ?_
  obtain ⟨cH, cv, H⟩ := bnd H
  refine ff rfl (jx (T := Ty.i64) (r := [(Vi 0)]) rfl rfl rfl cv rfl rfl rfl rfl rfl rfl rfl rfl rfl rfl (fun t cA bL dj => ?_))
  refine Ea Z<|fb<|fc<|fa<|Ea Z<|fb<|?_
  refine fz (fun e j a => ∃ (N : ad1) (P : List (List Value)) (f : SV) (s : ae1), [(1, (sv u)), (2, (sv g)), (3, (sv p)), (4, (Vp c)), (11, (sv t)), (12, (sv f))] = e ∧ (.blk c 27 (fp p0 n o)) :: (.row (sv t) 3 1 P.flatten) :: (.tok 91 2 [(sv f)]) :: G = a ∧ sn p1 p2 p3 p0 N s = some h ∧ RowR Ty.i64 j P N ∧ Slr gr j (sv f) s) ?_ ?_
  ·refine fc<|fa<|Em Z<|?_
   have bd := aL.mono E
   refine Eq Z (gg (T := fP) bd rfl rfl)<|Em Z<|fb<|fA<|?_
   refine f7 (fun bz e j a => ∃ (O : ad1) (W : List (List Value)) (I : SV) (ac : ae1) (F : Int), [(1, (sv u)), (2, (sv g)), (3, (sv p)), (4, (Vp c)), (11, (sv t)), (12, (sv I)), (39, (sv p)), (40, (Vi (p3.length : Int))), (41, (Vi F))] = e ∧ (.blk c 27 (fp p0 n o)) :: (.row (sv t) 3 1 W.flatten) :: (.tok 91 2 [(sv I)]) :: G = a ∧ lp3 (wV p1 p2 p3 p0) bz O ac F = some h ∧ RowR Ty.i64 j W O ∧ Slr gr j (sv I) ac) BIG ?_ ?_
   ·exact Shift.nilTok1 91 2<|Pu1<|Pu4<|Re3<|Re3<|Sd<|⟨_, by exact R9, cH, cA, fB, ([] : ae1), 0, rfl, rfl, H, bL, (Slr.nil gr _)⟩
   rintro bz _ bJ _ aF ⟨O, W, I, ac, F, rfl, rfl, H, y, be⟩
   obtain ⟨dq, bt, rfl, bW, H⟩ := xt H
   unfold wV at H
   refine fc<|fa<|Ec Z<|fb<|fc<|?_
   refine fm rfl ?_ ?_
   ·intro aj
    obtain ⟨aj, H⟩ := It aj H
    refine ft<|fc<|fA<|fc<|fa<|?_
    obtain ⟨b, bo, H⟩ := bnd H
    have bf := bd.mono aF
    obtain ⟨_, rfl, bR⟩ := Slr.at bf bo
    refine Eq Z (Qi (T := fP) bf bo Z)<|EL 6 (fK b) Z (Rdc.k bR rfl)<|?_
    refine ff rfl (fC (cs := (fK (Done.mk 0 (Result.mk 0 0 0 false 0)))) rfl rfl rfl rfl (fun au => ?_))
    refine ff rfl (Sa (fK b) Z .here Z ?_)
    refine fb<|fc<|?_
    refine fz (fun e j a => ∃ (aQ : Bool), [(1, (sv u)), (2, (sv g)), (3, (sv p)), (4, (Vp c)), (11, (sv t)), (12, (sv I)), (14, (Vp au)), (39, (sv p)), (40, (Vi (p3.length : Int))), (41, (Vi F)), (54, (.bool aQ))] = e ∧ bJ = j ∧ (.blk au 67 (fK b)) :: (.blk c 27 (fp p0 n o)) :: (.row (sv t) 3 1 W.flatten) :: (.tok 91 2 [(sv I)]) :: G = a ∧ so p1 p2 p3 O ac F b p0 bt aQ = some h) ?_ ?_
    ·refine fa<|EF 0 Z<|El (Vi b.thread) Z (Rb0 Z)<|Ec Z<|Em Z<|?_
     refine Ee Z ?_ ?_
     ·intro ak
      obtain ⟨ak, H⟩ := It ak H
      exact Ez Z<|Ez Z<|Ez Z<|Ez Z<|Ez Z<|Et Z<|fb<|Pu3<|Pu3<|Pu3<|Pu3<|Sd<|⟨_, by exact R11, true, rfl, rfl, rfl, H⟩
     ·intro ak
      obtain ⟨ak, H⟩ := If ak H
      refine VF 0 Z<|Vl (Vi b.thread) Z (Rb0 Z)<|Vm Z<|?_
      have ci := aM.mono aF
      exact Vq Z (gg (T := (Ty.sl gC)) ci rfl rfl)<|Vc Z<|Ef Z<|fb<|Pu3<|Pu3<|Pu3<|Pu3<|Sd<|⟨_, by exact R11, (dcd (b.thread ≥ (p1.length : Int))), rfl, rfl, rfl, H⟩
    rintro _ _ _ - ⟨aQ, rfl, rfl, rfl, H⟩
    unfold so at H
    refine fm rfl ?_ ?_
    ·intro aD
     have H := ift aD H
     refine fc<|fa<|Ea Z<|fb<|fx<|?_
     obtain Q := gn H
     subst h
     refine ⟨(.inl rfl), [(.bool false)], ⟨(.bool false), _, rfl, rfl, rfl⟩, ?_⟩
     exact Re0<|Re0<|Re0<|Re0<|Sd<|⟨rfl, rfl⟩
    ·intro aD
     have H := fX (btf aD) H
     refine ft<|fc<|fa<|Em Z<|EF 0 Z<|El (Vi b.thread) Z (Rb0 Z)<|?_
     obtain ⟨C, bp, H⟩ := bnd H
     obtain ⟨dt, a3, b1⟩ := RowR.at y bp
     obtain rfl := b1
     refine Eq Z (gz (T := Ty.i64) Mb2 y a3 (fL bp).1 rfl rfl rfl rfl rfl)<|El (Vi C) Z (gQ (T := Ty.i64) Mb2 y a3 rfl rfl)<|Ea Z<|fb<|fc<|fa<|Em Z<|EF 0 Z<|El (Vi b.thread) Z (Rb0 Z)<|?_
     obtain ⟨D, bq, H⟩ := bnd H
     obtain ⟨du, a4, b2⟩ := RowR.at y bq
     obtain rfl := b2
     refine Eq Z (gz (T := Ty.i64) Mb2 y a4 (fL bq).1 rfl rfl rfl rfl rfl)<|El (Vi D) Z (gQ (T := Ty.i64) Mb2 y a4 rfl rfl)<|Er (wI (D + 1)) Z<|?_
     obtain ⟨dA, br, H⟩ := bnd H
     obtain ⟨dv, aI, b3⟩ := RowR.at y br
     obtain rfl := b3
     refine Eq Z (gz (T := Ty.i64) Mb2 y aI (fL br).1 rfl rfl rfl rfl rfl) ?_
     refine ff rfl (gP (T := Ty.i64) (vs := [(Vi (wI (D + 1)))]) (r' := [(Vi (wI (D + 1)))]) (l' := (f8 O b.thread (wI (D + 1)))) rfl rfl rfl rfl rfl (.there (.there .here)) y aI rfl rfl rfl (RowR.set b.thread y rfl) (fun bM => ?_))
     have da := iO aI (v := [(Vi (wI (D + 1)))])
     refine fb<|fc<|fc<|fa<|Em Z<|EF 0 Z<|El (Vi b.thread) Z (Rb0 Z)<|Em Z<|?_
     obtain ⟨cI, cw, H⟩ := bnd H
     have bg := (((ax.mono L).mono M).mono E).mono aF
     refine ff rfl (Ek Tryz.call32 Z (Dj p2 g b.thread C cI cw _ _ bg) ?_)
     rintro _ c4 _ aG ⟨rfl, rfl⟩
     refine Ec Z<|fb<|?_
     refine fm rfl ?_ ?_
     ·intro al
      obtain ⟨al, H⟩ := It al H
      refine fc<|fa<|Ea Z<|fb<|fx<|?_
      obtain Q := gn H
      subst h
      refine ⟨(.inl rfl), [(.bool false)], ⟨(.bool false), _, rfl, rfl, rfl⟩, ?_⟩
      exact Re0<|Re0<|Re0<|Re0<|Sd<|⟨rfl, rfl⟩
     ·intro al
      obtain ⟨al, H⟩ := If al H
      refine ft<|fc<|fc<|fa<|Em Z<|EF 0 Z<|El (Vi b.thread) Z (Rb0 Z)<|Em Z<|?_
      obtain ⟨ar, cJ, cx, H⟩ := ir H
      have cj := bg.mono aG
      refine ff rfl (Ek Tryz.call33 Z (qw p2 g b.thread C ar cJ cx _ _ cj) ?_)
      rintro _ aU _ aX ⟨rfl, rfl⟩
      refine Em Z<|Ex Z<|Ex Z<|?_
      refine ff rfl (fC (cs := (fe (Result.mk 0 0 0 false 0))) rfl rfl rfl rfl (fun c9 => ?_))
      refine ff rfl (Sa (fe ar) Z .here Z ?_)
      refine Ea Z<|fb<|?_
      refine fz (fun e j a => ∃ (aR : Bool), [(1, (sv u)), (2, (sv g)), (3, (sv p)), (4, (Vp c)), (11, (sv t)), (12, (sv I)), (14, (Vp au)), (15, (Vi C)), (39, (sv p)), (40, (Vi (p3.length : Int))), (41, (Vi F)), (88, (.bool aR))] = e ∧ aU = j ∧ (.blk au 67 (fK b)) :: (.blk c 27 (fp p0 n o)) :: (.row (sv t) 3 1 (W.set b.thread.toNat [(Vi (wI (D + 1)))]).flatten) :: (.tok 91 2 [(sv I)]) :: G = a ∧ pe p1 p2 p3 O b D ac C F p0 bt aR = some h) ?_ ?_
      ·refine fa<|Em Z<|Ec Z<|Em Z<|?_
       refine Ee Z ?_ ?_
       ·intro am
        obtain ⟨am, H⟩ := It am H
        exact VL 5 (fe ar) Z (Rb0 Z)<|VF 1 Z<|VL 5 (fe b.result) Z (Rb1 Z)<|Vq Z (FD rfl rfl (fun w => Result.eqrun ar b.result w) (by kernel_rfl))<|Et Z<|fb<|Pu4<|Pu4<|Pu4<|Pu4<|Re4<|Sd<|⟨_, by exact R12, (!(dcd (ar = b.result))), rfl, rfl, rfl, H⟩
       ·intro am
        obtain ⟨am, H⟩ := If am H
        exact Ez Z<|Ez Z<|Ez Z<|Ez Z<|Ef Z<|fb<|Pu4<|Pu4<|Pu4<|Pu4<|Re4<|Sd<|⟨_, by exact R12, false, rfl, rfl, rfl, H⟩
      rintro _ _ _ - ⟨aR, rfl, rfl, rfl, H⟩
      unfold pe at H
      refine fm rfl ?_ ?_
      ·intro aE
       have H := ift aE H
       refine fc<|fa<|Ea Z<|fb<|fx<|?_
       obtain Q := gn H
       subst h
       refine ⟨(.inl rfl), [(.bool false)], ⟨(.bool false), _, rfl, rfl, rfl⟩, ?_⟩
       exact Re0<|Re0<|Re0<|Re0<|Sd<|⟨rfl, rfl⟩
      ·intro aE
       have H := fX (btf aE) H
       refine ft<|fa<|Em Z<|EF 0 Z<|El (Vi b.thread) Z (Rb0 Z)<|Em Z<|Eq Z (kH (cs := (gb (A2Int.mk b.thread C))) rfl rfl rfl rfl rfl rfl)<|?_
       have aY : RowR gr aU [(gb (A2Int.mk b.thread C))] [(A2Int.mk b.thread C)] := RowR.cons rfl (RowR.nil)
       refine ff rfl (gk (T := gr) (rows := [(gb (A2Int.mk b.thread C))]) (l := [(A2Int.mk b.thread C)]) rfl rfl rfl aY rfl rfl rfl rfl rfl rfl rfl rfl (fun dz => ?_))
       obtain ⟨cK, cy, H⟩ := bnd H
       have cl := (be.mono aG).mono aX
       refine ff rfl (ga (T := gr) (bytes := 16) (q := 0) rfl rfl rfl cl Mb4 rfl (SrcT.row Mb0 aY rfl) cy rfl rfl rfl rfl rfl rfl rfl rfl (fun cD c5 bK ck => ⟨_, (.there (.there (.there (.there .here)))), ?_⟩))
       refine Ow.shift (Re0 (Sd ?_))
       refine Ea Z<|fb<|fa<|Er (wI (F + 1)) Z<|Em Z<|fb<|Pu3<|Pu3<|Pu3<|Re3<|?_
       have cm := ((bM.mono aG).mono aX).mono bK
       exact Sd ⟨_, by exact R9, _, Nat.lt_succ_self _, (f8 O b.thread (wI (D + 1))), (W.set b.thread.toNat [(Vi (wI (D + 1)))]), cD, cK, (wI (F + 1)), rfl, rfl, (bW ▸ H), cm, ck⟩
   ·intro aj
    obtain ⟨aj, H⟩ := If aj H
    exact f9<|Pu2<|Pu2<|Pu2<|Sd<|⟨_, by exact R6, O, W, I, ac, rfl, rfl, H, y, be⟩
  rintro _ c6 _ U ⟨N, P, f, s, rfl, rfl, H, aH, aN⟩
  unfold sn at H
  refine fz (fun e j a => [(1, (sv u)), (2, (sv g)), (3, (sv p)), (4, (Vp c)), (12, (sv f))] = e ∧ (.blk c 27 (fp p0 n o)) :: (.tok 91 2 [(sv f)]) :: G = a ∧ sk p1 p2 p3 s p0 = some h) ?_ ?_
  ·refine fc<|fa<|Em Z<|?_
   obtain ⟨z, cn, H⟩ := bnd H
   have a5 := (((ax.mono L).mono M).mono E).mono U
   refine ff rfl (Ek Tryz.call34 Z (yd p2 g z cn _ _ a5) ?_)
   rintro _ cL _ an ⟨B, rfl, rfl, a6⟩
   refine Eq Z (gg (T := gr) a6 rfl rfl)<|Em Z<|fb<|fA<|?_
   refine f7 (fun bu e j a => ∃ (x : Int), [(1, (sv u)), (2, (sv g)), (3, (sv p)), (4, (Vp c)), (11, (sv t)), (12, (sv f)), (98, (sv B)), (99, (Vi (z.length : Int))), (100, (Vi x))] = e ∧ (.blk c 27 (fp p0 n o)) :: (.tok 91 2 [(sv B)]) :: (.row (sv t) 3 1 P.flatten) :: (.tok 91 2 [(sv f)]) :: G = a ∧ lp1 (wT p1 p2 p3 N s z p0) bu x = some h) BIG ?_ ?_
   ·exact Pu3<|Pu3<|Pu2<|Pu3<|Sd<|⟨_, by exact R9, 0, rfl, rfl, H⟩
   rintro bu _ cM _ Y ⟨x, rfl, rfl, H⟩
   obtain ⟨dl, az, rfl, bS, H⟩ := lx H
   unfold wT at H
   refine fc<|fa<|Ec Z<|fb<|fc<|?_
   refine fm rfl ?_ ?_
   ·intro ae
    obtain ⟨ae, H⟩ := It ae H
    refine ft ?_
    refine fz (fun e j a => [(1, (sv u)), (2, (sv g)), (3, (sv p)), (4, (Vp c)), (11, (sv t)), (12, (sv f)), (98, (sv B)), (99, (Vi (z.length : Int))), (100, (Vi x))] = e ∧ (.blk c 27 (fp p0 n o)) :: (.tok 91 2 [(sv B)]) :: (.row (sv t) 3 1 P.flatten) :: (.tok 91 2 [(sv f)]) :: G = a ∧ wQ p1 p2 p3 N s z x p0 az = some h) ?_ ?_
    ·refine fA<|fc<|fa<|?_
     obtain ⟨i, bh, H⟩ := bnd H
     have a7 := a6.mono Y
     obtain ⟨_, rfl, bN⟩ := Slr.at a7 bh
     refine Eq Z (Qi (T := gr) a7 bh Z)<|EL 2 (gb i) Z (Rdc.k bN rfl)<|?_
     refine ff rfl (fC (cs := (gb (A2Int.mk 0 0))) rfl rfl rfl rfl (fun X => ?_))
     refine ff rfl (Sa (gb i) Z .here Z ?_)
     refine fb<|fc<|fc<|fa<|Em Z<|Eq Z (ic (q := 0) (m := 0) rfl rfl rfl rfl rfl (by decide) rfl (by decide))<|El (Vi i.x0) Z (Rb0 Z)<|Eq Z (ic (q := 1) (m := 1) rfl rfl rfl rfl rfl (by decide) rfl (by decide))<|El (Vi i.x1) Z (Rb0 Z)<|?_
     obtain ⟨bA, bB, co, H⟩ := ir H
     have aJ := (a5.mono an).mono Y
     refine ff rfl (Ek Tryz.call33 Z (qw p2 g i.x0 i.x1 bA bB co _ _ aJ) ?_)
     rintro _ bI _ aa ⟨rfl, rfl⟩
     refine Em Z<|Ex Z<|Ex Z<|?_
     refine ff rfl (fC (cs := (fe (Result.mk 0 0 0 false 0))) rfl rfl rfl rfl (fun c7 => ?_))
     refine ff rfl (Sa (fe bA) Z .here Z ?_)
     refine Ea Z<|fb<|?_
     refine fz (fun e j a => ∃ (aO : Bool), [(1, (sv u)), (2, (sv g)), (3, (sv p)), (4, (Vp c)), (11, (sv t)), (12, (sv f)), (19, (Vp X)), (98, (sv B)), (99, (Vi (z.length : Int))), (100, (Vi x)), (124, (.bool aO))] = e ∧ bI = j ∧ (.blk X 91 (gb i)) :: (.blk c 27 (fp p0 n o)) :: (.tok 91 2 [(sv B)]) :: (.row (sv t) 3 1 P.flatten) :: (.tok 91 2 [(sv f)]) :: G = a ∧ pd p1 p2 p3 N s z x i p0 az aO = some h) ?_ ?_
     ·rcases gR (dcd (bB ≥ 0)) with ap | ap <;> revert ap
      ·intro R
       obtain ⟨R, H⟩ := It R H
       obtain ⟨bC, bi, H⟩ := bnd H
       refine fq _ rfl (Ic Mb0 (Ic Mb1 (Ic Mb2 (Ic Mb3 (Ic Mb4 (Ic Mb5 In0))))))<|Jm 0 Z<|Jc 1 Z<|Jm 2 Z<|Aw.known (d := 115) rfl (hZ R)<|Bq 3 Z (ic (q := 1) (m := 1) rfl rfl rfl rfl rfl (by decide) rfl (by decide))<|Bl 4 (Vi i.x1) Z (Rb1 Z)<|Bm 5 Z<|Bq 6 Z (ic (q := 0) (m := 0) rfl rfl rfl rfl rfl (by decide) rfl (by decide))<|Bl 7 (Vi i.x0) Z (Rb1 Z)<|?_
       have aK := ((aH.mono an).mono Y).mono aa
       obtain ⟨dr, a1, bZ⟩ := RowR.at aK bi
       obtain rfl := bZ
       exact Bq 8 Z (gz (T := Ty.i64) Mb4 aK a1 (fL bi).1 rfl rfl rfl rfl rfl)<|Bl 9 (Vi bC) Z (gQ (T := Ty.i64) Mb4 aK a1 rfl rfl)<|Bc 10 Z<|Jt 11 Z<|Ad<|Pu5<|Pu5<|Pu5<|Pu5<|Pu5<|Re5<|Sd<|⟨_, by exact R11, (dcd (i.x1 ≥ bC)), rfl, rfl, rfl, H⟩
      ·intro R
       obtain ⟨R, H⟩ := If R H
       exact fq _ rfl (Ic Mb0 (Ic Mb1 (Ic Mb2 (Ic Mb3 (Ic Mb4 (Ic Mb5 In0))))))<|Jm 0 Z<|Jc 1 Z<|Jm 2 Z<|Aw.known (d := 115) rfl (iq R)<|Jz 3 Z<|Jz 4 Z<|Jz 5 Z<|Jz 6 Z<|Jz 7 Z<|Jz 8 Z<|Jz 9 Z<|Jz 10 Z<|Jf 11 Z<|Ad<|Pu5<|Pu5<|Pu5<|Pu5<|Pu5<|Re5<|Sd<|⟨_, by exact R11, false, rfl, rfl, rfl, H⟩
     rintro _ _ _ - ⟨aO, rfl, rfl, rfl, H⟩
     unfold pd at H
     refine fm rfl ?_ ?_
     ·intro aA
      have H := ift aA H
      refine fc<|fa<|Ea Z<|fb<|fx<|?_
      obtain Q := gn H
      subst h
      refine ⟨(.inl rfl), [(.bool false)], ⟨(.bool false), _, rfl, rfl, rfl⟩, ?_⟩
      exact Re0<|Re0<|Re0<|Re0<|Re0<|Sd<|⟨rfl, rfl⟩
     ·intro aA
      have H := fX (btf aA) H
      refine ft<|fc<|fa<|Em Z<|?_
      have a8 := ((aN.mono an).mono Y).mono aa
      refine Eq Z (gg (T := gr) a8 rfl rfl)<|Em Z<|fb<|fA<|?_
      refine f7 (fun bv e j a => ∃ (V : Int), [(1, (sv u)), (2, (sv g)), (3, (sv p)), (4, (Vp c)), (11, (sv t)), (12, (sv f)), (19, (Vp X)), (98, (sv B)), (99, (Vi (z.length : Int))), (100, (Vi x)), (125, (sv f)), (126, (Vi (s.length : Int))), (127, (Vi V))] = e ∧ (.blk X 91 (gb i)) :: (.blk c 27 (fp p0 n o)) :: (.tok 91 2 [(sv B)]) :: (.row (sv t) 3 1 P.flatten) :: (.tok 91 2 [(sv f)]) :: G = a ∧ lp1 (wR p1 p2 p3 N s z x i p0 az) bv V = some h) BIG ?_ ?_
      ·exact Pu4<|Pu4<|Pu4<|Pu4<|Pu4<|Sd<|⟨_, by exact R13, 0, rfl, rfl, H⟩
      rintro bv _ cN _ ao ⟨V, rfl, rfl, H⟩
      obtain ⟨dm, cz, rfl, bT, H⟩ := lx H
      unfold wR at H
      refine fc<|fa<|Ec Z<|fb<|fc<|?_
      refine fm rfl ?_ ?_
      ·intro af
       obtain ⟨af, H⟩ := It af H
       refine ft<|fc<|fA<|fc<|fa<|?_
       obtain ⟨ad, bj, H⟩ := bnd H
       have a9 := a8.mono ao
       obtain ⟨_, rfl, bO⟩ := Slr.at a9 bj
       refine Eq Z (Qi (T := gr) a9 bj Z)<|EL 2 (gb ad) Z (Rdc.k bO rfl)<|?_
       refine ff rfl (fC (cs := (gb (A2Int.mk 0 0))) rfl rfl rfl rfl (fun c8 => ?_))
       refine ff rfl (Sa (gb ad) Z .here Z ?_)
       refine fb ?_
       refine fz (fun e j a => ∃ (aP : Bool), [(1, (sv u)), (2, (sv g)), (3, (sv p)), (4, (Vp c)), (11, (sv t)), (12, (sv f)), (19, (Vp X)), (98, (sv B)), (99, (Vi (z.length : Int))), (100, (Vi x)), (125, (sv f)), (126, (Vi (s.length : Int))), (127, (Vi V)), (144, (.bool aP))] = e ∧ (.blk X 91 (gb i)) :: (.blk c 27 (fp p0 n o)) :: (.tok 91 2 [(sv B)]) :: (.row (sv t) 3 1 P.flatten) :: (.tok 91 2 [(sv f)]) :: G = a ∧ pa p1 p2 p3 N s z x V i p0 az cz aP = some h) ?_ ?_
       ·obtain ⟨aS, bk, H⟩ := bnd H
        rcases gR aS with ap | ap <;> revert ap
        ·intro ag
         have H := ift ag H
         obtain ⟨bD, bl, H⟩ := bnd H
         refine fq _ rfl (Ic Mb0 (Ic Mb1 (Ic Mb2 (Ic Mb3 (Ic Mb4 (Ic Mb5 In0))))))<|Jm 0 Z<|JL 1 2 (gb i) Z (Rb1 Z)<|JL 2 2 (gb ad) Z (Rb0 Z)<|?_
         refine Ao 3 Z ?_
         have b4 := (aJ.mono aa).mono ao
         refine Ek Tryz.call35 Z (lr p2 g i ad aS bk _ _ b4) ?_
         rintro _ cO _ db ⟨rfl, rfl⟩
         refine ⟨(Ic Mb0 (Ic Mb1 (Ic Mb2 (Ic Mb3 (Ic Mb4 (Ic Mb5 In0)))))), ?_⟩
         refine Jm 4 Z<|Aw.known (d := 135) rfl (ag)<|Bq 5 Z (ic (q := 1) (m := 1) rfl rfl rfl rfl rfl (by decide) rfl (by decide))<|Bl 6 (Vi i.x1) Z (Rb1 Z)<|Bm 7 Z<|Bq 8 Z (ic (q := 0) (m := 0) rfl rfl rfl rfl rfl (by decide) rfl (by decide))<|Bl 9 (Vi i.x0) Z (Rb1 Z)<|?_
         have ba := (((aH.mono an).mono Y).mono aa).mono ao
         obtain ⟨ds, a2, b0⟩ := RowR.at ba bl
         obtain rfl := b0
         refine Bq 10 Z (gz (T := Ty.i64) Mb4 ba a2 (fL bl).1 rfl rfl rfl rfl rfl) ?_
         have b5 := (((aH.mono an).mono Y).mono aa).mono ao
         exact Bl 11 (Vi bD) Z (gQ (T := Ty.i64) Mb4 b5 a2 rfl rfl)<|Bc 12 Z<|Jt 13 Z<|Ad<|Pu5<|Pu5<|Pu5<|Pu5<|Pu5<|Re5<|Sd<|⟨_, by exact R14, (dcd (i.x1 ≥ bD)), rfl, rfl, H⟩
        ·intro ag
         have H := fX (btf ag) H
         refine fq _ rfl (Ic Mb0 (Ic Mb1 (Ic Mb2 (Ic Mb3 (Ic Mb4 (Ic Mb5 In0))))))<|Jm 0 Z<|JL 1 2 (gb i) Z (Rb1 Z)<|JL 2 2 (gb ad) Z (Rb0 Z)<|?_
         refine Ao 3 Z ?_
         have b6 := (aJ.mono aa).mono ao
         refine Ek Tryz.call35 Z (lr p2 g i ad aS bk _ _ b6) ?_
         rintro _ cP _ dc ⟨rfl, rfl⟩
         refine ⟨(Ic Mb0 (Ic Mb1 (Ic Mb2 (Ic Mb3 (Ic Mb4 (Ic Mb5 In0)))))), ?_⟩
         exact Jm 4 Z<|Aw.known (d := 135) rfl (ag)<|Jz 5 Z<|Jz 6 Z<|Jz 7 Z<|Jz 8 Z<|Jz 9 Z<|Jz 10 Z<|Jz 11 Z<|Jz 12 Z<|Jf 13 Z<|Ad<|Pu5<|Pu5<|Pu5<|Pu5<|Pu5<|Re5<|Sd<|⟨_, by exact R14, false, rfl, rfl, H⟩
       rintro _ cQ _ dd ⟨aP, rfl, rfl, H⟩
       unfold pa at H
       refine fm rfl ?_ ?_
       ·intro aB
        have H := ift aB H
        refine fc<|fa<|Ea Z<|fb<|fx<|?_
        obtain Q := gn H
        subst h
        refine ⟨(.inl rfl), [(.bool false)], ⟨(.bool false), _, rfl, rfl, rfl⟩, ?_⟩
        exact Re0<|Re0<|Re0<|Re0<|Re0<|Sd<|⟨rfl, rfl⟩
       ·intro aB
        have H := fX (btf aB) H
        exact ft<|fa<|Er (wI (V + 1)) Z<|Em Z<|fb<|Pu4<|Pu4<|Pu4<|Pu4<|Pu4<|Sd<|⟨_, by exact R13, _, Nat.lt_succ_self _, (wI (V + 1)), rfl, rfl, (bT ▸ H)⟩
      ·intro af
       obtain ⟨af, H⟩ := If af H
       exact f9<|Pu4<|Pu4<|Pu4<|Pu4<|Re4<|Sd<|⟨_, by exact R9, rfl, rfl, H⟩
    rintro _ cR _ de ⟨rfl, rfl, H⟩
    unfold wQ at H
    exact fa<|Er (wI (x + 1)) Z<|Em Z<|fb<|Pu3<|Pu3<|Pu3<|Pu3<|Sd<|⟨_, by exact R9, _, Nat.lt_succ_self _, (wI (x + 1)), rfl, rfl, (bS ▸ H)⟩
   ·intro ae
    obtain ⟨ae, H⟩ := If ae H
    exact f9<|Pu3<|Pu1<|Re2<|Re2<|Sd<|⟨_, by exact R5, rfl, rfl, H⟩
  rintro _ cS _ J ⟨rfl, rfl, H⟩
  unfold sk at H
  refine fz (fun e j a => [(1, (sv u)), (2, (sv g)), (3, (sv p)), (4, (Vp c)), (12, (sv f))] = e ∧ (.blk c 27 (fp p0 n o)) :: (.tok 91 2 [(sv f)]) :: G = a ∧ sj p1 p2 p3 s p0 = some h) ?_ ?_
  ·refine fc<|fa<|Em Z<|?_
   have bb := aN.mono J
   refine Eq Z (gg (T := gr) bb rfl rfl)<|Em Z<|fb<|fA<|?_
   refine f7 (fun bw e j a => ∃ (A : Int), [(1, (sv u)), (2, (sv g)), (3, (sv p)), (4, (Vp c)), (12, (sv f)), (148, (Vi (s.length : Int))), (149, (Vi A))] = e ∧ (.blk c 27 (fp p0 n o)) :: (.tok 91 2 [(sv f)]) :: G = a ∧ lp1 (wP p1 p2 p3 s p0) bw A = some h) BIG ?_ ?_
   ·exact Pu1<|Pu1<|Sd<|⟨_, by exact R7, 0, rfl, rfl, H⟩
   rintro bw _ cT _ aV ⟨A, rfl, rfl, H⟩
   obtain ⟨dn, bs, rfl, bU, H⟩ := lx H
   unfold wP at H
   refine fc<|fa<|Ec Z<|fb<|fc<|?_
   refine fm rfl ?_ ?_
   ·intro ah
    obtain ⟨ah, H⟩ := It ah H
    refine ft ?_
    refine fz (fun e j a => [(1, (sv u)), (2, (sv g)), (3, (sv p)), (4, (Vp c)), (12, (sv f)), (148, (Vi (s.length : Int))), (149, (Vi A))] = e ∧ (.blk c 27 (fp p0 n o)) :: (.tok 91 2 [(sv f)]) :: G = a ∧ wN p1 p2 p3 s A p0 bs = some h) ?_ ?_
    ·refine fA<|fc<|fa<|Em Z<|Ea Z<|fb<|fc<|fa<|Ea Z<|fb<|fA<|?_
     refine f7 (fun bx e j a => ∃ (aq : Int), [(1, (sv u)), (2, (sv g)), (3, (sv p)), (4, (Vp c)), (12, (sv f)), (24, (Vi A)), (25, (Vi aq)), (148, (Vi (s.length : Int))), (149, (Vi A))] = e ∧ (.blk c 27 (fp p0 n o)) :: (.tok 91 2 [(sv f)]) :: G = a ∧ lp1 (wO p1 p2 p3 s A p0 bs) bx aq = some h) BIG ?_ ?_
     ·exact Pu1<|Pu1<|Sd<|⟨_, by exact R9, 0, rfl, rfl, H⟩
     rintro bx _ cU _ aW ⟨aq, rfl, rfl, H⟩
     obtain ⟨dp, dk, rfl, bV, H⟩ := lx H
     unfold wO at H
     refine fc<|fc<|fa<|Em Z<|Em Z<|Ec Z<|fb<|?_
     refine fm rfl ?_ ?_
     ·intro ai
      obtain ⟨ai, H⟩ := It ai H
      refine ft<|fc<|fA<|fc<|?_
      obtain ⟨bE, bm, H⟩ := bnd H
      obtain ⟨bF, bn, H⟩ := bnd H
      obtain ⟨cE, cp, H⟩ := bnd H
      refine fq _ rfl (Ic Mb0 (Ic Mb1 In0))<|Jm 0 Z<|Jm 1 Z<|Jm 2 Z<|?_
      have ay := (bb.mono aV).mono aW
      obtain ⟨_, rfl, bP⟩ := Slr.at ay bm
      refine Jq 3 Z (Qi (T := gr) ay bm Z)<|JL 4 2 (gb bE) Z (Rdc.k bP rfl)<|Jm 5 Z<|Jm 6 Z<|?_
      obtain ⟨_, rfl, bQ⟩ := Slr.at ay bn
      refine Jq 7 Z (Qi (T := gr) ay bn Z)<|JL 8 2 (gb bF) Z (Rdc.k bQ rfl)<|?_
      refine Ao 9 Z ?_
      have b7 := ((((((ax.mono L).mono M).mono E).mono U).mono J).mono aV).mono aW
      refine Ek Tryz.call35 Z (lr p2 g bE bF cE cp _ _ b7) ?_
      rintro _ cV _ df ⟨rfl, rfl⟩
      refine ⟨(Ic Mb0 (Ic Mb1 In0)), ?_⟩
      refine Ad ?_
      refine fm rfl ?_ ?_
      ·intro aC
       have H := ift aC H
       refine fc<|fa<|Ea Z<|fb<|fx<|?_
       obtain Q := gn H
       subst h
       refine ⟨(.inl rfl), [(.bool false)], ⟨(.bool false), _, rfl, rfl, rfl⟩, ?_⟩
       exact Re0<|Re0<|Sd<|⟨rfl, rfl⟩
      ·intro aC
       have H := fX (btf aC) H
       exact ft<|fa<|Em Z<|Er (wI (aq + 1)) Z<|Ea Z<|fb<|Pu1<|Pu1<|Sd<|⟨_, by exact R9, _, Nat.lt_succ_self _, (wI (aq + 1)), rfl, rfl, (bV ▸ H)⟩
     ·intro ai
      obtain ⟨ai, H⟩ := If ai H
      exact f9<|Pu1<|Pu1<|Sd<|⟨_, by exact R7, rfl, rfl, H⟩
    rintro _ cW _ dg ⟨rfl, rfl, H⟩
    unfold wN at H
    exact fa<|Er (wI (A + 1)) Z<|Em Z<|fb<|Pu1<|Pu1<|Sd<|⟨_, by exact R7, _, Nat.lt_succ_self _, (wI (A + 1)), rfl, rfl, (bU ▸ H)⟩
   ·intro ah
    obtain ⟨ah, H⟩ := If ah H
    exact f9<|Pu1<|Pu1<|Sd<|⟨_, by exact R5, rfl, rfl, H⟩
  rintro _ cX _ ab ⟨rfl, rfl, H⟩
  unfold sj at H
  refine fc<|fa<|EL 3 (fp p0 n o) Z (Rb0 Z)<|?_
  obtain ⟨bG, cq, H⟩ := bnd H
  have b8 := (((((aZ.mono L).mono M).mono E).mono U).mono J).mono ab
  have b9 := (((((a0.mono L).mono M).mono E).mono U).mono J).mono ab
  refine ff rfl (Ek Tryz.call27 Z (pm p0 n o bG cq _ _ b8 b9) ?_)
  rintro _ cY _ av ⟨cB, dw, rfl, rfl, ca⟩
  refine Em Z<|Em Z<|Em Z<|Em Z<|?_
  refine Ow.shift (Shift.settle (T := fF) .here ca rfl (fun cZ aw cb => Sd ?_))
  obtain ⟨aT, cr, H⟩ := bnd H
  have cc := ((((aM.mono U).mono J).mono ab).mono av).mono aw
  have cd := (((((((ax.mono L).mono M).mono E).mono U).mono J).mono ab).mono av).mono aw
  have ce := (((((aL.mono E).mono U).mono J).mono ab).mono av).mono aw
  have cf := (((aN.mono J).mono ab).mono av).mono aw
  refine ff rfl (Ek Tryz.call36 Z (Dk bG cB p1 u p2 g p3 p s f aT cr _ _ cb cc cd ce cf) ?_)
  rintro _ c0 _ dh ⟨rfl, rfl⟩
  refine Ea Z<|fb<|fx<|?_
  obtain Q := gn H
  subst h
  refine ⟨(.inl rfl), [(.bool aT)], ⟨(.bool aT), _, rfl, rfl, rfl⟩, ?_⟩
  exact Re0<|Re0<|Re0<|Re0<|Sd<|⟨rfl, rfl⟩
end Go.Hx
namespace Go.Hx
open Go Go.Proofs
set_option maxRecDepth 10000
set_option maxHeartbeats 1000000
theorem C9 (p0 : ad0) (h : SV) (p1 : af1) (j : SV) (c : Bool) (H : y5 p0 p1 = some c) (K : Kp) (G : List Ent) (ai : Slr fF K (sv h) p0) (aj : Slr fQ K (sv j) p1) :
  Fc Tryz.prog 82 #[(sv h), (sv j)] K (G) (fun v l a => v = (.bool c) ∧ G = a) := by
 refine fN Tryz.func82 rfl Tryz.ntmps82 Tryz.results82 rfl ?_
 unfold y5 at H
 refine fc<|fa<|Ea Z<|fb<|?_
 refine fz (fun e l a => [] = e ∧ G = a ∧ y7 = some c) ?_ ?_
 ·refine fc<|fa<|Ea Z<|fb<|fA<|?_
  refine f7 (fun M e l a => ∃ (b : Int), [(0, (sv h)), (1, (sv j)), (5, (Vi b))] = e ∧ G = a ∧ lp1 (za p0 p1) M b = some c) BIG ?_ ?_
  ·exact Sd ⟨_, by exact R3, 0, rfl, rfl, H⟩
  rintro M _ aK _ C ⟨b, rfl, rfl, H⟩
  obtain ⟨aZ, x, rfl, ah, H⟩ := lx H
  unfold za at H
  refine fc<|fc<|fa<|Em Z<|Em Z<|?_
  have p := aj.mono C
  refine Eq Z (gg (T := fQ) p rfl rfl)<|Ec Z<|fb<|?_
  refine fm rfl ?_ ?_
  ·intro n
   obtain ⟨n, H⟩ := It n H
   refine ft ?_
   refine fz (fun e l a => [(0, (sv h)), (1, (sv j)), (5, (Vi b))] = e ∧ G = a ∧ y8 p0 p1 b x = some c) ?_ ?_
   ·refine fA<|fc<|fc<|fa<|Em Z<|Em Z<|Em Z<|?_
    obtain ⟨X, J, H⟩ := bnd H
    obtain ⟨a6, aq, af⟩ := Slr.at p J
    obtain ⟨R, S, rfl, ay, az⟩ := aq
    refine Eq Z (Qi (T := fQ) p J Z)<|EF 1 Z<|EL 7 (fh X.op R S) Z (Rdc.k af rfl)<|?_
    obtain ⟨aE, aC, H⟩ := bnd H
    have E := ai.mono C
    refine ff rfl (Ek Tryz.call84 Z (ye p0 h X.op R S aE aC _ _ E ay az) ?_)
    rintro _ aL _ w ⟨bf, rfl, rfl, aA⟩
    refine Eq Z (gg (T := fO) aA rfl rfl)<|Ec Z<|fb<|?_
    refine fm rfl ?_ ?_
    ·intro o
     obtain ⟨o, H⟩ := It o H
     refine fc<|fa<|Ea Z<|fb<|fx<|?_
     obtain B := gn H
     subst c
     refine ⟨(.inl rfl), [(.bool true)], ⟨(.bool true), _, rfl, rfl, rfl⟩, ?_⟩
     exact Re0<|Sd<|⟨rfl, rfl⟩
    ·intro o
     obtain ⟨o, H⟩ := If o H
     refine ft<|fc<|fa<|Ea Z<|fb<|fA<|?_
     refine f7 (fun L e l a => ∃ (i : Int), [(0, (sv h)), (1, (sv j)), (5, (Vi b)), (6, (Vi i))] = e ∧ G = a ∧ lp1 (y9 p0 p1 b x) L i = some c) BIG ?_ ?_
     ·exact Re0<|Sd<|⟨_, by exact R4, 0, rfl, rfl, H⟩
     rintro L _ aF _ u ⟨i, rfl, rfl, H⟩
     obtain ⟨aY, aD, rfl, ag, H⟩ := lx H
     unfold y9 at H
     refine fc<|fc<|fa<|Em Z<|Em Z<|Ec Z<|fb<|?_
     refine fm rfl ?_ ?_
     ·intro m
      obtain ⟨m, H⟩ := It m H
      refine ft<|fc<|fA<|?_
      refine fz (fun e l a => ∃ (y : Bool), [(0, (sv h)), (1, (sv j)), (5, (Vi b)), (6, (Vi i)), (51, (.bool y))] = e ∧ G = a ∧ u2 p0 p1 b i x aD y = some c) ?_ ?_
      ·obtain ⟨z, r, H⟩ := bnd H
       obtain ⟨A, s, H⟩ := bnd H
       rcases gR (!(dcd (z.thread = A.thread))) with D | D <;> revert D
       ·intro f
        have f := lG (ix (f))
        have H := fX f H
        obtain ⟨U, F, H⟩ := bnd H
        obtain ⟨V, I, H⟩ := bnd H
        obtain ⟨W, aB, H⟩ := bnd H
        refine fq _ rfl In0<|Jm 0 Z<|Jm 1 Z<|?_
        have g := (p.mono w).mono u
        obtain ⟨a0, ak, Y⟩ := Slr.at g r
        obtain ⟨a7, a8, rfl, aQ, aR⟩ := ak
        refine Jq 2 Z (Qi (T := fQ) g r Z)<|JF 3 0 Z<|Jl 4 (Vi z.thread) Z (Rdc.k Y rfl)<|Jm 5 Z<|Jm 6 Z<|?_
        obtain ⟨a1, al, aa⟩ := Slr.at g s
        obtain ⟨a9, ba, rfl, aS, aT⟩ := al
        refine Jq 7 Z (Qi (T := fQ) g s Z)<|JF 8 0 Z<|Jl 9 (Vi A.thread) Z (Rdc.k aa rfl)<|Jc 10 Z<|Jm 11 Z<|Aw.known (d := 38) rfl (lK (iq f))<|Bm 12 Z<|Bm 13 Z<|Bm 14 Z<|?_
        obtain ⟨a2, am, ab⟩ := Slr.at g F
        obtain ⟨N, O, rfl, ar, au⟩ := am
        refine Bq 15 Z (Qi (T := fQ) g F Z)<|BF 16 1 Z<|BL 17 7 (fh U.op N O) Z (Rdc.k ab rfl)<|Bm 18 Z<|Bm 19 Z<|?_
        obtain ⟨a3, an, ac⟩ := Slr.at g I
        obtain ⟨P, Q, rfl, av, aw⟩ := an
        refine Bq 20 Z (Qi (T := fQ) g I Z)<|BF 21 1 Z<|BL 22 7 (fh V.op P Q) Z (Rdc.k ac rfl)<|?_
        refine gB 23 (by kernel_rfl) (jJ rfl rfl rfl rfl rfl ?_)
        have ax := (E.mono w).mono u
        refine Ek Tryz.call108 Z (C7 p0 h U.op N O V.op P Q W aB _ _ ax ar au av aw) ?_
        rintro _ aG _ aM ⟨rfl, rfl⟩
        refine ⟨In0, ?_⟩
        exact Jt 24 Z<|Ad<|Sd<|⟨_, by exact R5, W, rfl, rfl, H⟩
       ·intro f
        have f := lH (iw (f))
        have H := ift f H
        refine fq _ rfl In0<|Jm 0 Z<|Jm 1 Z<|?_
        have q := (p.mono w).mono u
        obtain ⟨a4, ao, ad⟩ := Slr.at q r
        obtain ⟨bb, bc, rfl, aU, aV⟩ := ao
        refine Jq 2 Z (Qi (T := fQ) q r Z)<|JF 3 0 Z<|Jl 4 (Vi z.thread) Z (Rdc.k ad rfl)<|Jm 5 Z<|Jm 6 Z<|?_
        obtain ⟨a5, ap, ae⟩ := Slr.at q s
        obtain ⟨bd, be, rfl, aW, aX⟩ := ap
        exact Jq 7 Z (Qi (T := fQ) q s Z)<|JF 8 0 Z<|Jl 9 (Vi A.thread) Z (Rdc.k ae rfl)<|Jc 10 Z<|Jm 11 Z<|Aw.known (d := 38) rfl (lJ (hZ f))<|Jz 12 Z<|Jz 13 Z<|Jz 14 Z<|Jz 15 Z<|Jz 16 Z<|Jz 17 Z<|Jz 18 Z<|Jz 19 Z<|Jz 20 Z<|Jz 21 Z<|Jz 22 Z<|Jz 23 Z<|Jf 24 Z<|Ad<|Sd<|⟨_, by exact R5, false, rfl, rfl, H⟩
      rintro _ aH _ aN ⟨y, rfl, rfl, H⟩
      unfold u2 at H
      refine fm rfl ?_ ?_
      ·intro t
       have H := ift t H
       refine fc<|fa<|Ea Z<|fb<|fx<|?_
       obtain B := gn H
       subst c
       refine ⟨(.inl rfl), [(.bool true)], ⟨(.bool true), _, rfl, rfl, rfl⟩, ?_⟩
       exact Sd ⟨rfl, rfl⟩
      ·intro t
       have H := fX (btf t) H
       exact ft<|fa<|Em Z<|Er (wI (i + 1)) Z<|Ea Z<|fb<|Sd<|⟨_, by exact R4, _, Nat.lt_succ_self _, (wI (i + 1)), rfl, rfl, (ag ▸ H)⟩
     ·intro m
      obtain ⟨m, H⟩ := If m H
      exact f9<|Sd<|⟨_, by exact R3, rfl, rfl, H⟩
   rintro _ aI _ aO ⟨rfl, rfl, H⟩
   unfold y8 at H
   exact fa<|Em Z<|Er (wI (b + 1)) Z<|Ea Z<|fb<|Sd<|⟨_, by exact R3, _, Nat.lt_succ_self _, (wI (b + 1)), rfl, rfl, (ah ▸ H)⟩
  ·intro n
   obtain ⟨n, H⟩ := If n H
   exact f9<|Sd<|⟨[], trivial, rfl, rfl, H⟩
 rintro _ aJ _ aP ⟨rfl, rfl, H⟩
 unfold y7 at H
 refine fc<|fa<|Ea Z<|fb<|fx<|?_
 obtain B := gn H
 subst c
 refine ⟨(.inl rfl), [(.bool false)], ⟨(.bool false), _, rfl, rfl, rfl⟩, ?_⟩
 exact Sd ⟨rfl, rfl⟩
end Go.Hx
namespace Go.Hx
open Go Go.Proofs
set_option maxRecDepth 10000
set_option maxHeartbeats 1000000
theorem Da (d : Nat) (B : ae3) (s : SV) (A : ad4) (r : SV) (z : ae1) (g : SV) (y : af5) (p : SV) (x : ae5) (f : SV) (C : ad6) (t : SV) (c : Bool) (a : Bool) (D : ae0) (b : SV) (o : List (List Value)) (p1 : ae5) (M : SV) (p2 : ad0) (E : SV) (h : Bool) (H : r7 B A z y x C c a D p1 p2 = some h) (K : Kp) (G : List Ent) (aC : Slr (Ty.sl gC) K (sv s) B) (aB : Slr f4 K (sv r) A) (aA : Slr gr K (sv g) z) (az : Slr (Ty.sl Ty.bool) K (sv p) y) (ab : Slr Ty.bool K (sv f) x) (aD : Slr fO K (sv t) C) (aE : RowR Ty.str K o D) (U : Slr Ty.bool K (sv M) p1) (aF : Slr fF K (sv E) p2) :
  Fc Tryz.prog 46 #[(Vp d), (sv M), (sv E)] K ((.blk d 76 [(sv s), (sv r), (sv g), (sv p), (sv f), (sv t), (.bool c), (.bool a), (sv b)]) :: (.row (sv b) 9 1 o.flatten) :: G) (fun v i e => v = (.bool h) ∧ (.blk d 76 [(sv s), (sv r), (sv g), (sv p), (sv f), (sv t), (.bool c), (.bool a), (sv b)]) :: (.row (sv b) 9 1 o.flatten) :: G = e) := by
 refine fN Tryz.func46 rfl Tryz.ntmps46 Tryz.results46 rfl ?_
 unfold r7 at H
 refine fc<|fa<|Ea Z<|fb<|?_
 refine fz (fun j i e => [(0, (Vp d)), (1, (sv M)), (2, (sv E))] = j ∧ (.blk d 76 [(sv s), (sv r), (sv g), (sv p), (sv f), (sv t), (.bool c), (.bool a), (sv b)]) :: (.row (sv b) 9 1 o.flatten) :: G = e ∧ we p1 p2 B A z y x C c a D = some h) ?_ ?_
 ·refine fc<|fa<|Ea Z<|fb<|fA<|?_
  refine f7 (fun n248 j i e => ∃ (J : Int), [(0, (Vp d)), (1, (sv M)), (2, (sv E)), (7, (Vi J))] = j ∧ K = i ∧ (.blk d 76 [(sv s), (sv r), (sv g), (sv p), (sv f), (sv t), (.bool c), (.bool a), (sv b)]) :: (.row (sv b) 9 1 o.flatten) :: G = e ∧ lp1 (wh p1 p2 B A z y x C c a D) n248 J = some h) BIG ?_ ?_
  ·exact Pu1<|Pu1<|Sd<|⟨_, by exact R4, 0, rfl, rfl, rfl, H⟩
  rintro n248 _ _ _ - ⟨J, rfl, rfl, rfl, H⟩
  obtain ⟨a6, aU, rfl, ay, H⟩ := lx H
  unfold wh at H
  refine fc<|fc<|fa<|Em Z<|Em Z<|Eq Z (gg (T := Ty.bool) U rfl rfl)<|Ec Z<|fb<|?_
  refine fm rfl ?_ ?_
  ·intro P
   obtain ⟨P, H⟩ := It P H
   refine ft<|fc<|fA<|?_
   refine fz (fun j i e => ∃ (af : Bool), [(0, (Vp d)), (1, (sv M)), (2, (sv E)), (7, (Vi J)), (29, (.bool af))] = j ∧ K = i ∧ (.blk d 76 [(sv s), (sv r), (sv g), (sv p), (sv f), (sv t), (.bool c), (.bool a), (sv b)]) :: (.row (sv b) 9 1 o.flatten) :: G = e ∧ s4 p1 p2 J B A z y x C c a D aU af = some h) ?_ ?_
   ·refine fa<|Em Z<|Eq Z (fD rfl)<|EF 4 Z<|El (sv f) Z (Rb0 Z)<|Em Z<|?_
    obtain ⟨aW, ak, H⟩ := bnd H
    obtain ⟨_, rfl, au⟩ := Slr.at ab ak
    refine Eq Z (Qi (T := Ty.bool) ab ak Z)<|El (.bool aW) Z (Rdc.k au rfl)<|Em Z<|?_
    refine Ee Z ?_ ?_
    ·intro Y
     have H := ift Y H
     refine Vm Z<|Vm Z<|?_
     obtain ⟨ap, al, H⟩ := bnd H
     obtain ⟨_, rfl, av⟩ := Slr.at U al
     exact Vq Z (Qi (T := Ty.bool) U al Z)<|Vl (.bool ap) Z (Rdc.k av rfl)<|Vq Z (gi rfl)<|Et Z<|fb<|Pu1<|Pu1<|Sd<|⟨_, by exact R5, (!(ap)), rfl, rfl, rfl, H⟩
    ·intro Y
     have H := fX (btf Y) H
     exact Ez Z<|Ez Z<|Ez Z<|Ez Z<|Ez Z<|Ef Z<|fb<|Pu1<|Pu1<|Sd<|⟨_, by exact R5, false, rfl, rfl, rfl, H⟩
   rintro _ _ _ - ⟨af, rfl, rfl, rfl, H⟩
   unfold s4 at H
   refine fm rfl ?_ ?_
   ·intro aa
    have H := ift aa H
    refine fc<|fa<|Ea Z<|fb<|fx<|?_
    obtain ah := gn H
    subst h
    refine ⟨(.inl rfl), [(.bool false)], ⟨(.bool false), _, rfl, rfl, rfl⟩, ?_⟩
    exact Pu1<|Pu1<|Sd<|⟨rfl, rfl⟩
   ·intro aa
    have H := fX (btf aa) H
    exact ft<|fa<|Em Z<|Er (wI (J + 1)) Z<|Ea Z<|fb<|Pu1<|Pu1<|Sd<|⟨_, by exact R4, _, Nat.lt_succ_self _, (wI (J + 1)), rfl, rfl, rfl, (ay ▸ H)⟩
  ·intro P
   obtain ⟨P, H⟩ := If P H
   exact f9<|Pu1<|Pu1<|Sd<|⟨_, by exact R3, rfl, rfl, H⟩
 rintro _ aZ _ n ⟨rfl, rfl, H⟩
 unfold we at H
 refine fc<|fc<|fa<|Em Z<|Eq Z (fD rfl)<|EF 7 Z<|El (.bool a) Z (Rb0 Z)<|Eq Z (gi rfl)<|fb<|?_
 refine fm rfl ?_ ?_
 ·intro F
  have F := ix F
  have H := fX (btf F) H
  refine fc<|fa<|Ea Z<|fb<|fx<|?_
  obtain ah := gn H
  subst h
  refine ⟨(.inl rfl), [(.bool true)], ⟨(.bool true), _, rfl, rfl, rfl⟩, ?_⟩
  exact Pu1<|Pu1<|Sd<|⟨rfl, rfl⟩
 ·intro F
  have F := iw F
  have H := ift F H
  refine ft<|fc<|fa<|Ea Z<|fb<|?_
  refine fz (fun j i e => ∃ (S : SV) (V : af1), [(2, (sv E)), (8, (sv S))] = j ∧ (.blk d 76 [(sv s), (sv r), (sv g), (sv p), (sv f), (sv t), (.bool c), (.bool a), (sv b)]) :: (.tok 96 8 [(sv S)]) :: (.row (sv b) 9 1 o.flatten) :: G = e ∧ zm p2 B A z y x C c a D V = some h ∧ Slr fQ i (sv S) V) ?_ ?_
  ·refine fc<|fa<|Ea Z<|fb<|fA<|?_
   refine f7 (fun ao j i e => ∃ (L : SV) (R : af1) (w : Int), [(0, (Vp d)), (1, (sv M)), (2, (sv E)), (8, (sv L)), (9, (Vi w))] = j ∧ (.blk d 76 [(sv s), (sv r), (sv g), (sv p), (sv f), (sv t), (.bool c), (.bool a), (sv b)]) :: (.tok 96 8 [(sv L)]) :: (.row (sv b) 9 1 o.flatten) :: G = e ∧ lp2 (zn p1 p2 B A z y x C c a D) ao R w = some h ∧ Slr fQ i (sv L) R) BIG ?_ ?_
   ·exact Shift.nilTok1 96 8<|Pu2<|Pu1<|Pu2<|Sd<|⟨_, by exact R5, fB, ([] : af1), 0, rfl, rfl, H, (Slr.nil fQ _)⟩
   rintro ao _ aq _ u ⟨L, R, w, rfl, rfl, H, ac⟩
   obtain ⟨a7, a5, rfl, aj, H⟩ := jL H
   unfold zn at H
   refine fc<|fc<|fa<|Em Z<|Em Z<|?_
   have aH := (U.mono n).mono u
   refine Eq Z (gg (T := Ty.bool) aH rfl rfl)<|Ec Z<|fb<|?_
   refine fm rfl ?_ ?_
   ·intro Q
    obtain ⟨Q, H⟩ := It Q H
    refine ft<|fc<|fA<|fc<|fa<|Em Z<|Eq Z (fD rfl)<|EF 4 Z<|El (sv f) Z (Rb0 Z)<|Em Z<|?_
    obtain ⟨aX, am, H⟩ := bnd H
    have ad := (ab.mono n).mono u
    obtain ⟨_, rfl, aw⟩ := Slr.at ad am
    refine Eq Z (Qi (T := Ty.bool) ad am Z)<|El (.bool aX) Z (Rdc.k aw rfl)<|Eq Z (gi rfl)<|fb<|?_
    refine fm rfl ?_ ?_
    ·intro I
     have I := ix I
     have H := fX (btf I) H
     obtain ⟨N, an, H⟩ := bnd H
     obtain ⟨O, aR, H⟩ := bnd H
     obtain ⟨aY, aS, H⟩ := bnd H
     refine fq _ rfl (Ic Mb0 (Ic Mb2 In0))<|Jm 0 Z<|Jm 1 Z<|Jq 2 Z (fD rfl)<|JF 3 2 Z<|Jl 4 (sv g) Z (Rb0 Z)<|Jm 5 Z<|?_
     have ae := (aA.mono n).mono u
     obtain ⟨_, rfl, ax⟩ := Slr.at ae an
     refine Jq 6 Z (Qi (T := gr) ae an Z)<|Jq 7 Z (ic (q := 0) (m := 0) rfl rfl rfl rfl rfl (by decide) rfl (by decide))<|Jl 8 (Vi N.x0) Z (Rdc.k ax rfl)<|Jm 9 Z<|Jm 10 Z<|?_
     refine Ao 11 Z ?_
     refine OpW.shift (Pu2 (Sd ?_))
     refine OpW.shift (Pu1 (Sd ?_))
     have aI := (aC.mono n).mono u
     have aJ := (aB.mono n).mono u
     have aK := (az.mono n).mono u
     have aL := (aD.mono n).mono u
     have aM := (aE.mono n).mono u
     refine Ek Tryz.call52 Z (ny d B s A r z g y p x f C t c a D b o w O aR _ _ aI aJ ae aK ad aL aM) ?_
     rintro _ _ _ - ⟨W, X, rfl, rfl, rfl, aN, aO⟩
     refine ⟨(Ic Mb0 (Ic Mb1 In0)), ?_⟩
     refine Jq 12 Z (fH (cs := (gw (gJ.mk N.x0 O) W X)) rfl rfl rfl rfl rfl rfl) ?_
     refine Ao 13 Z ?_
     have ai : RowR fQ aq [(gw (gJ.mk N.x0 O) W X)] [(gJ.mk N.x0 O)] := RowR.cons ⟨W, X, rfl, aN, aO⟩ (RowR.nil)
     refine gk (T := fQ) (rows := [(gw (gJ.mk N.x0 O) W X)]) (l := [(gJ.mk N.x0 O)]) rfl rfl rfl ai rfl rfl rfl rfl rfl rfl rfl rfl (fun a8 => ⟨(Ic Mb1 (Ic Mb2 In0)), ?_⟩)
     refine Ao 14 Z ?_
     refine ga (T := fQ) (bytes := 96) (q := 0) rfl rfl rfl ac Mb3 rfl (SrcT.row Mb0 ai rfl) aS rfl rfl rfl rfl rfl rfl rfl rfl (fun aV a0 a3 aP => ⟨_, (.there (.there (.there .here))), ⟨(Ic Mb1 (Ic Mb2 In0)), ?_⟩⟩)
     refine Aw.shift (Re0 (Sd ⟨(Ic Mb0 (Ic Mb1 In0)), ?_⟩))
     exact Ja 15 Z<|Ad<|fa<|Em Z<|Er (wI (w + 1)) Z<|Ea Z<|fb<|Pu1<|Pu2<|Pu2<|Sd<|⟨_, by exact R5, _, Nat.lt_succ_self _, aV, aY, (wI (w + 1)), rfl, rfl, (aj ▸ H), aP⟩
    ·intro I
     have I := iw I
     have H := ift I H
     exact ft<|fa<|Em Z<|Er (wI (w + 1)) Z<|Ea Z<|fb<|Pu2<|Pu2<|Pu2<|Sd<|⟨_, by exact R5, _, Nat.lt_succ_self _, L, R, (wI (w + 1)), rfl, rfl, (aj ▸ H), ac⟩
   ·intro Q
    obtain ⟨Q, H⟩ := If Q H
    exact f9<|Pu2<|Pu2<|Pu2<|Sd<|⟨_, by exact R2, L, R, rfl, rfl, H, ac⟩
  rintro _ a1 _ ar ⟨S, V, rfl, rfl, H, aG⟩
  unfold zm at H
  refine fc<|fa<|Em Z<|Em Z<|?_
  obtain ⟨ag, aT, H⟩ := bnd H
  have aQ := (aF.mono n).mono ar
  refine ff rfl (Ek Tryz.call82 Z (C9 p2 E V S ag aT _ _ aQ aG) ?_)
  rintro _ a2 _ a4 ⟨rfl, rfl⟩
  refine Eq Z (gi rfl)<|Ea Z<|fb<|fx<|?_
  obtain ah := gn H
  subst h
  refine ⟨(.inl rfl), [(.bool (!(ag)))], ⟨(.bool (!(ag))), _, rfl, rfl, rfl⟩, ?_⟩
  exact Pu2<|Pu1<|Re2<|Sd<|⟨rfl, rfl⟩
theorem yg (p0 : ad1) (p : SV) (o : List (List Value)) (p1 : Int) (g : ad1) (H : o5 p0 p1 = some g) (K : Kp) (G : List Ent) (y : RowR Ty.u8 K o p0) :
  Fc Tryz.prog 83 #[(sv p), (.int .u64 p1)] K ((.row (sv p) 5 1 o.flatten) :: G) (fun v b e => ∃ (t : SV) (s : List (List Value)), v = (sv t) ∧ (.row (sv t) 5 1 s.flatten) :: G = e ∧ RowR Ty.u8 b s g) := by
 refine fN Tryz.func83 rfl Tryz.ntmps83 Tryz.results83 rfl ?_
 unfold o5 at H
 refine fc<|fa<|Ea Z<|fb<|?_
 refine fz (fun m b e => ∃ (d : SV) (n : ad1) (j : List (List Value)), [(0, (sv d))] = m ∧ (.row (sv d) 5 1 j.flatten) :: G = e ∧ wi n = some g ∧ RowR Ty.u8 b j n) ?_ ?_
 ·refine fc<|fa<|Ea Z<|fb<|fA<|?_
  refine f7 (fun n107 m b e => ∃ (k : SV) (h : ad1) (i : List (List Value)) (a : Int), [(0, (sv k)), (1, (.int .u64 p1)), (5, (Vi a))] = m ∧ K = b ∧ (.row (sv k) 5 1 i.flatten) :: G = e ∧ lp2 (wj p1) n107 h a = some g ∧ RowR Ty.u8 b i h) BIG ?_ ?_
  ·exact Sd ⟨_, by exact R3, p, p0, o, 0, rfl, rfl, rfl, H, y⟩
  rintro n107 _ _ _ - ⟨k, h, i, a, rfl, rfl, rfl, H, q⟩
  obtain ⟨L, J, rfl, x, H⟩ := jL H
  unfold wj at H
  refine fc<|fc<|fa<|Em Z<|Ec Z<|fb<|?_
  refine fm rfl ?_ ?_
  ·intro f
   obtain ⟨f, H⟩ := It f H
   refine ft<|fc<|fA<|fa<|Em Z<|Em Z<|Em Z<|Er (wI (8 * a)) Z<|Eq Z (kJ (c := wU (wI (8 * a))) rfl rfl rfl rfl)<|?_
   obtain ⟨N, z, H⟩ := bnd H
   refine Eq Z (FH (BD z).1 rfl rfl)<|Eq Z (kJ (c := wB (ud .u64 p1 (wU (wI (8 * a))))) rfl rfl rfl rfl)<|?_
   have r : RowR Ty.u8 K [[(.int .u8 (wB (ud .u64 p1 (wU (wI (8 * a))))))]] [wB (ud .u64 p1 (wU (wI (8 * a))))] := RowR.cons rfl (RowR.nil)
   refine ff rfl (gk (T := Ty.u8) (rows := [[(.int .u8 (wB (ud .u64 p1 (wU (wI (8 * a))))))]]) (l := [wB (ud .u64 p1 (wU (wI (8 * a))))]) rfl rfl rfl r rfl rfl rfl rfl rfl rfl rfl rfl (fun M => ?_))
   obtain ⟨D, A, H⟩ := bnd H
   refine ff rfl (gZ (T := Ty.u8) (bytes := 1) rfl rfl rfl Mb1 q (SrcT.row Mb0 r rfl) A rfl rfl rfl rfl rfl rfl rfl rfl (fun C B u => ⟨_, (.there .here), ?_⟩))
   refine Ow.shift (Re0 (Sd ?_))
   exact Ea Z<|fb<|fa<|Em Z<|Er (wI (a + 1)) Z<|Ea Z<|fb<|Sd<|⟨_, by exact R3, _, Nat.lt_succ_self _, C, D, B, (wI (a + 1)), rfl, rfl, rfl, (x ▸ H), u⟩
  ·intro f
   obtain ⟨f, H⟩ := If f H
   exact f9<|Sd<|⟨_, by exact R1, k, h, i, rfl, rfl, H, q⟩
 rintro _ E _ I ⟨d, n, j, rfl, rfl, H, w⟩
 unfold wi at H
 refine fc<|fa<|Em Z<|Ea Z<|fb<|fx<|?_
 obtain F := gn H
 subst g
 refine ⟨(.inl rfl), [(sv d)], ⟨(sv d), _, rfl, rfl, rfl⟩, ?_⟩
 exact Sd ⟨d, j, rfl, rfl, w⟩
theorem Db (p0 : ae5) (Y : SV) (p1 : ad0) (g : SV) (f : ByteArray) (H : sb p0 p1 = some f) (K : Kp) (G : List Ent) (Q : Slr Ty.bool K (sv Y) p0) (aY : Slr fF K (sv g) p1) :
  Fc Tryz.prog 48 #[(sv Y), (sv g)] K (G) (fun v a b => v = (.string f) ∧ G = b) := by
 refine fN Tryz.func48 rfl Tryz.ntmps48 Tryz.results48 rfl ?_
 unfold sb at H
 refine fc<|fa<|Ea Z<|fb<|fc<|fa<|Ea Z<|fb<|?_
 refine fz (fun d a b => ∃ (L : SV) (A : ad1) (E : List (List Value)), [(1, (sv g)), (5, (sv L))] = d ∧ (.row (sv L) 5 1 E.flatten) :: G = b ∧ sa p1 A = some f ∧ RowR Ty.u8 a E A) ?_ ?_
 ·refine fc<|fa<|Ea Z<|fb<|fA<|?_
  refine f7 (fun aw d a b => ∃ (M : SV) (B : ad1) (F : List (List Value)) (h : Int), [(0, (sv Y)), (1, (sv g)), (5, (sv M)), (6, (Vi h))] = d ∧ K = a ∧ (.row (sv M) 5 1 F.flatten) :: G = b ∧ lp2 (wq p0 p1) aw B h = some f ∧ RowR Ty.u8 a F B) BIG ?_ ?_
  ·have aM : RowR Ty.u8 K [] [] := RowR.nil
   exact Shift.nilRow 5 1<|Sd<|⟨_, by exact R4, fB, ([] : ad1), ([] : List (List Value)), 0, rfl, rfl, rfl, H, aM⟩
  rintro aw _ _ _ - ⟨M, B, F, h, rfl, rfl, rfl, H, P⟩
  obtain ⟨bP, bM, rfl, ai, H⟩ := jL H
  unfold wq at H
  refine fc<|fc<|fa<|Em Z<|Em Z<|Eq Z (gg (T := Ty.bool) Q rfl rfl)<|Ec Z<|fb<|?_
  refine fm rfl ?_ ?_
  ·intro m
   obtain ⟨m, H⟩ := It m H
   refine ft<|fc<|fA<|fc<|fa<|Em Z<|Em Z<|?_
   obtain ⟨bv, ar, H⟩ := bnd H
   obtain ⟨_, rfl, aV⟩ := Slr.at Q ar
   refine Eq Z (Qi (T := Ty.bool) Q ar Z)<|El (.bool bv) Z (Rdc.k aV rfl)<|fb<|?_
   refine fm rfl ?_ ?_
   ·intro O
    have H := ift O H
    refine fa<|Em Z<|?_
    have ag : RowR Ty.u8 K [[(.int .u8 1)]] [1] := RowR.cons rfl (RowR.nil)
    refine ff rfl (gk (T := Ty.u8) (rows := [[(.int .u8 1)]]) (l := [1]) rfl rfl rfl ag rfl rfl rfl rfl rfl rfl rfl rfl (fun bX => ?_))
    obtain ⟨bw, bb, H⟩ := bnd H
    refine ff rfl (gZ (T := Ty.u8) (bytes := 1) rfl rfl rfl Mb1 P (SrcT.row Mb0 ag rfl) bb rfl rfl rfl rfl rfl rfl rfl rfl (fun bq bh aN => ⟨_, (.there .here), ?_⟩))
    refine Ow.shift (Re0 (Sd ?_))
    exact Ea Z<|fb<|fa<|Em Z<|Er (wI (h + 1)) Z<|Ea Z<|fb<|Sd<|⟨_, by exact R4, _, Nat.lt_succ_self _, bq, bw, bh, (wI (h + 1)), rfl, rfl, rfl, (ai ▸ H), aN⟩
   ·intro O
    have H := fX (btf O) H
    refine fa<|Em Z<|?_
    have ah : RowR Ty.u8 K [[(.int .u8 0)]] [0] := RowR.cons rfl (RowR.nil)
    refine ff rfl (gk (T := Ty.u8) (rows := [[(.int .u8 0)]]) (l := [0]) rfl rfl rfl ah rfl rfl rfl rfl rfl rfl rfl rfl (fun bY => ?_))
    obtain ⟨bx, bc, H⟩ := bnd H
    refine ff rfl (gZ (T := Ty.u8) (bytes := 1) rfl rfl rfl Mb1 P (SrcT.row Mb0 ah rfl) bc rfl rfl rfl rfl rfl rfl rfl rfl (fun br bi aO => ⟨_, (.there .here), ?_⟩))
    refine Ow.shift (Re0 (Sd ?_))
    exact Ea Z<|fb<|fa<|Em Z<|Er (wI (h + 1)) Z<|Ea Z<|fb<|Sd<|⟨_, by exact R4, _, Nat.lt_succ_self _, br, bx, bi, (wI (h + 1)), rfl, rfl, rfl, (ai ▸ H), aO⟩
  ·intro m
   obtain ⟨m, H⟩ := If m H
   exact f9<|Sd<|⟨_, by exact R2, M, B, F, rfl, rfl, H, P⟩
 rintro _ bE _ aF ⟨L, A, E, rfl, rfl, H, aL⟩
 unfold sa at H
 refine fz (fun d a b => ∃ (X : SV) (S : ad1) (V : List (List Value)), [(5, (sv X))] = d ∧ (.row (sv X) 5 1 V.flatten) :: G = b ∧ wk S = some f ∧ RowR Ty.u8 a V S) ?_ ?_
 ·refine fc<|fa<|Ea Z<|fb<|fA<|?_
  refine f7 (fun au d a b => ∃ (t : SV) (p : ad1) (r : List (List Value)) (e : Int), [(1, (sv g)), (5, (sv t)), (7, (Vi e))] = d ∧ (.row (sv t) 5 1 r.flatten) :: G = b ∧ lp2 (wo p1) au p e = some f ∧ RowR Ty.u8 a r p) BIG ?_ ?_
  ·exact Sd ⟨_, by exact R3, L, A, E, 0, rfl, rfl, H, aL⟩
  rintro au _ bz _ aD ⟨t, p, r, e, rfl, rfl, H, ac⟩
  obtain ⟨bN, x, rfl, aW, H⟩ := jL H
  unfold wo at H
  refine fc<|fc<|fa<|Em Z<|Em Z<|?_
  have n := (aY.mono aF).mono aD
  refine Eq Z (gg (T := fF) n rfl rfl)<|Ec Z<|fb<|?_
  refine fm rfl ?_ ?_
  ·intro i
   obtain ⟨i, H⟩ := It i H
   refine ft ?_
   refine fz (fun d a b => ∃ (I : SV) (y : ad1) (C : List (List Value)), [(1, (sv g)), (5, (sv I)), (7, (Vi e))] = d ∧ (.row (sv I) 5 1 C.flatten) :: G = b ∧ wl p1 e x y = some f ∧ RowR Ty.u8 a C y) ?_ ?_
   ·refine fA<|fc<|fa<|Em Z<|Em Z<|Em Z<|?_
    obtain ⟨ax, am, H⟩ := bnd H
    obtain ⟨bQ, aZ, aQ⟩ := Slr.at n am
    obtain ⟨bj, rfl, a3⟩ := aZ
    refine Eq Z (Qi (T := fF) n am Z)<|EF 1 Z<|El (sv bj) Z (Rdc.k aQ rfl)<|Eq Z (gg (T := Ty.u64) a3 rfl rfl)<|Eq Z (kJ (c := wU (ax.buffer.length : Int)) rfl rfl rfl rfl)<|?_
    obtain ⟨ay, a6, H⟩ := bnd H
    refine ff rfl (Ek Tryz.call83 Z (yg p t r (wU (ax.buffer.length : Int)) ay a6 _ _ ac) ?_)
    rintro _ aa _ ab ⟨bk, bd, rfl, rfl, aj⟩
    refine Ea Z<|fb<|?_
    refine fz (fun d a b => ∃ (J : SV) (z : ad1) (D : List (List Value)), [(1, (sv g)), (5, (sv J)), (7, (Vi e))] = d ∧ aa = a ∧ (.row (sv J) 5 1 D.flatten) :: G = b ∧ o6 p1 e x z = some f ∧ RowR Ty.u8 a D z) ?_ ?_
    ·refine fc<|fa<|Em Z<|Em Z<|?_
     obtain ⟨bs, an, H⟩ := bnd H
     have ak := n.mono ab
     obtain ⟨bR, a0, aR⟩ := Slr.at ak an
     obtain ⟨bU, rfl, bK⟩ := a0
     refine Eq Z (Qi (T := fF) ak an Z)<|EF 2 Z<|El (.bool bs.closed) Z (Rdc.k aR rfl)<|fb<|?_
     refine fm rfl ?_ ?_
     ·intro N
      have H := ift N H
      refine fa<|Em Z<|?_
      have ad : RowR Ty.u8 aa [[(.int .u8 1)]] [1] := RowR.cons rfl (RowR.nil)
      refine ff rfl (gk (T := Ty.u8) (rows := [[(.int .u8 1)]]) (l := [1]) rfl rfl rfl ad rfl rfl rfl rfl rfl rfl rfl rfl (fun bV => ?_))
      obtain ⟨bt, a7, H⟩ := bnd H
      refine ff rfl (gZ (T := Ty.u8) (bytes := 1) rfl rfl rfl Mb1 aj (SrcT.row Mb0 ad rfl) a7 rfl rfl rfl rfl rfl rfl rfl rfl (fun bl be aI => ⟨_, (.there .here), ?_⟩))
      refine Ow.shift (Re0 (Sd ?_))
      exact Ea Z<|fb<|Sd<|⟨_, by exact R3, bl, bt, be, rfl, rfl, rfl, H, aI⟩
     ·intro N
      have H := fX (btf N) H
      exact ft<|Sd<|⟨_, by exact R3, bk, ay, bd, rfl, rfl, rfl, H, aj⟩
    rintro _ _ _ - ⟨J, z, D, rfl, rfl, rfl, H, aH⟩
    unfold o6 at H
    refine fz (fun d a b => ∃ (W : SV) (R : ad1) (U : List (List Value)), [(1, (sv g)), (5, (sv W)), (7, (Vi e))] = d ∧ (.row (sv W) 5 1 U.flatten) :: G = b ∧ wm p1 e x R = some f ∧ RowR Ty.u8 a U R) ?_ ?_
    ·refine fc<|fa<|Ea Z<|fb<|fA<|?_
     refine f7 (fun av d a b => ∃ (u : SV) (q : ad1) (s : List (List Value)) (o : Int), [(1, (sv g)), (5, (sv u)), (7, (Vi e)), (8, (Vi o))] = d ∧ (.row (sv u) 5 1 s.flatten) :: G = b ∧ lp2 (wn p1 e x) av q o = some f ∧ RowR Ty.u8 a s q) BIG ?_ ?_
     ·exact Sd ⟨_, by exact R4, J, z, D, 0, rfl, rfl, H, aH⟩
     rintro av _ bA _ aE ⟨u, q, s, o, rfl, rfl, H, ae⟩
     obtain ⟨bO, bL, rfl, aX, H⟩ := jL H
     unfold wn at H
     refine fc<|fc<|fa<|Em Z<|Em Z<|Em Z<|?_
     obtain ⟨bZ, ao, H⟩ := bnd H
     have w := (n.mono ab).mono aE
     obtain ⟨bS, a1, aS⟩ := Slr.at w ao
     obtain ⟨bm, rfl, a4⟩ := a1
     refine Eq Z (Qi (T := fF) w ao Z)<|EF 1 Z<|El (sv bm) Z (Rdc.k aS rfl)<|Eq Z (gg (T := Ty.u64) a4 rfl rfl)<|Ec Z<|fb<|?_
     refine fm rfl ?_ ?_
     ·intro j
      obtain ⟨j, H⟩ := It j H
      refine ft<|fc<|fA<|fa<|Em Z<|Em Z<|Em Z<|?_
      obtain ⟨b0, ap, H⟩ := bnd H
      obtain ⟨bT, a2, aT⟩ := Slr.at w ap
      obtain ⟨bn, rfl, al⟩ := a2
      refine Eq Z (Qi (T := fF) w ap Z)<|EF 1 Z<|El (sv bn) Z (Rdc.k aT rfl)<|Em Z<|?_
      obtain ⟨az, aq, H⟩ := bnd H
      obtain ⟨_, rfl, aU⟩ := Slr.at al aq
      refine Eq Z (Qi (T := Ty.u64) al aq Z)<|El (.int .u64 az) Z (Rdc.k aU rfl)<|?_
      obtain ⟨aA, a8, H⟩ := bnd H
      refine ff rfl (Ek Tryz.call83 Z (yg q u s az aA a8 _ _ ae) ?_)
      rintro _ bB _ bG ⟨bo, bf, rfl, rfl, a5⟩
      exact Ea Z<|fb<|fa<|Em Z<|Er (wI (o + 1)) Z<|Ea Z<|fb<|Sd<|⟨_, by exact R4, _, Nat.lt_succ_self _, bo, aA, bf, (wI (o + 1)), rfl, rfl, (aX ▸ H), a5⟩
     ·intro j
      obtain ⟨j, H⟩ := If j H
      exact f9<|Sd<|⟨_, by exact R3, u, q, s, rfl, rfl, H, ae⟩
    rintro _ aC _ bH ⟨W, R, U, rfl, rfl, H, aJ⟩
    unfold wm at H
    refine fa<|Em Z<|?_
    have af : RowR Ty.u8 aC [[(.int .u8 2)]] [2] := RowR.cons rfl (RowR.nil)
    refine ff rfl (gk (T := Ty.u8) (rows := [[(.int .u8 2)]]) (l := [2]) rfl rfl rfl af rfl rfl rfl rfl rfl rfl rfl rfl (fun bW => ?_))
    obtain ⟨bu, a9, H⟩ := bnd H
    refine ff rfl (gZ (T := Ty.u8) (bytes := 1) rfl rfl rfl Mb1 aJ (SrcT.row Mb0 af rfl) a9 rfl rfl rfl rfl rfl rfl rfl rfl (fun bp bg aK => ⟨_, (.there .here), ?_⟩))
    refine Ow.shift (Re0 (Sd ?_))
    exact Ea Z<|fb<|Sd<|⟨_, by exact R3, bp, bu, bg, rfl, rfl, H, aK⟩
   rintro _ bC _ bI ⟨I, y, C, rfl, rfl, H, aG⟩
   unfold wl at H
   exact fa<|Em Z<|Er (wI (e + 1)) Z<|Ea Z<|fb<|Sd<|⟨_, by exact R3, _, Nat.lt_succ_self _, I, y, C, (wI (e + 1)), rfl, rfl, (aW ▸ H), aG⟩
  ·intro i
   obtain ⟨i, H⟩ := If i H
   exact f9<|Sd<|⟨_, by exact R1, t, p, r, rfl, rfl, H, ac⟩
 rintro _ bD _ bJ ⟨X, S, V, rfl, rfl, H, aP⟩
 unfold wk at H
 refine fc<|fa<|Em Z<|?_
 obtain ⟨aB, ba, H⟩ := bnd H
 refine Eq Z (B5 Mb0 aP ba rfl rfl rfl rfl)<|Ea Z<|fb<|fx<|?_
 obtain bF := gn H
 subst f
 refine ⟨(.inl rfl), [(.string aB)], ⟨(.string aB), _, rfl, rfl, rfl⟩, ?_⟩
 exact Re0<|Sd<|⟨rfl, rfl⟩
theorem Dc (d : Nat) (z : ae3) (j : SV) (y : ad4) (i : SV) (x : ae1) (h : SV) (w : af5) (g : SV) (u : ae5) (f : SV) (A : ad6) (k : SV) (b : Bool) (c : Bool) (B : ae0) (a : SV) (s : List (List Value)) (p1 : ByteArray) (m : Bool) (n : ae0) (H : sc z y x w u A b c B p1 = some (m, n)) (K : Kp) (G : List Ent) (ad : Slr (Ty.sl gC) K (sv j) z) (ac : Slr f4 K (sv i) y) (ab : Slr gr K (sv h) x) (aa : Slr (Ty.sl Ty.bool) K (sv g) w) (Y : Slr Ty.bool K (sv f) u) (ae : Slr fO K (sv k) A) (e : RowR Ty.str K s B) :
  Fc Tryz.prog 47 #[(Vp d), (.string p1)] K ((.blk d 76 [(sv j), (sv i), (sv h), (sv g), (sv f), (sv k), (.bool b), (.bool c), (sv a)]) :: (.row (sv a) 9 1 s.flatten) :: G) (fun v t o => ∃ (L : SV) (J : List (List Value)), v = (.bool m) ∧ (.blk d 76 [(sv j), (sv i), (sv h), (sv g), (sv f), (sv k), (.bool b), (.bool c), (sv L)]) :: (.row (sv L) 9 1 J.flatten) :: G = o ∧ RowR Ty.str t J n) := by
 refine fN Tryz.func47 rfl Tryz.ntmps47 Tryz.results47 rfl ?_
 unfold sc at H
 refine fc<|fa<|Ea Z<|fb<|?_
 refine fz (fun C t o => [(0, (Vp d)), (1, (.string p1))] = C ∧ (.blk d 76 [(sv j), (sv i), (sv h), (sv g), (sv f), (sv k), (.bool b), (.bool c), (sv a)]) :: (.row (sv a) 9 1 s.flatten) :: G = o ∧ wu p1 z y x w u A b c B = some (m, n)) ?_ ?_
 ·refine fc<|fa<|Ea Z<|fb<|fA<|?_
  refine f7 (fun n77 C t o => ∃ (r : Int), [(0, (Vp d)), (1, (.string p1)), (5, (Vi r))] = C ∧ K = t ∧ (.blk d 76 [(sv j), (sv i), (sv h), (sv g), (sv f), (sv k), (.bool b), (.bool c), (sv a)]) :: (.row (sv a) 9 1 s.flatten) :: G = o ∧ lp1 (wv p1 z y x w u A b c B) n77 r = some (m, n)) BIG ?_ ?_
  ·exact Pu1<|Pu1<|Sd<|⟨_, by exact R3, 0, rfl, rfl, rfl, H⟩
  rintro n77 _ _ _ - ⟨r, rfl, rfl, rfl, H⟩
  obtain ⟨ag, af, rfl, R, H⟩ := lx H
  unfold wv at H
  refine fc<|fc<|fa<|Em Z<|Em Z<|Eq Z (fD rfl)<|EF 8 Z<|El (sv a) Z (Rb0 Z)<|Eq Z (ln (T := Ty.str) Mb1 e rfl rfl rfl)<|Ec Z<|fb<|?_
  refine fm rfl ?_ ?_
  ·intro p
   obtain ⟨p, H⟩ := It p H
   refine ft<|fc<|fA<|fc<|fa<|Em Z<|Eq Z (fD rfl)<|EF 8 Z<|El (sv a) Z (Rb0 Z)<|Em Z<|?_
   obtain ⟨X, I, H⟩ := bnd H
   obtain ⟨ah, F, S⟩ := RowR.at e I
   obtain rfl := S
   refine Eq Z (gz (T := Ty.str) Mb1 e F (fL I).1 rfl rfl rfl rfl rfl)<|El (.string X) Z (gQ (T := Ty.str) Mb1 e F rfl rfl)<|Em Z<|Eq Z (B6 rfl rfl)<|fb<|?_
   refine fm rfl ?_ ?_
   ·intro q
    obtain ⟨q, H⟩ := It q H
    refine fc<|fa<|Ea Z<|fb<|fx<|?_
    obtain ⟨N, O⟩ := hY H
    subst m n
    refine ⟨(.inl rfl), [(.bool true)], ⟨(.bool true), _, rfl, rfl, rfl⟩, ?_⟩
    exact Pu1<|Pu1<|Sd<|⟨a, s, rfl, rfl, e⟩
   ·intro q
    obtain ⟨q, H⟩ := If q H
    exact ft<|fa<|Em Z<|Er (wI (r + 1)) Z<|Ea Z<|fb<|Pu1<|Pu1<|Sd<|⟨_, by exact R3, _, Nat.lt_succ_self _, (wI (r + 1)), rfl, rfl, rfl, (R ▸ H)⟩
  ·intro p
   obtain ⟨p, H⟩ := If p H
   exact f9<|Pu1<|Pu1<|Sd<|⟨_, by exact R2, rfl, rfl, H⟩
 rintro _ M _ P ⟨rfl, rfl, H⟩
 unfold wu at H
 refine fc<|fa<|Em Z<|Em Z<|Eq Z (fD rfl)<|EF 8 Z<|El (sv a) Z (Rb0 Z)<|Em Z<|?_
 have E : RowR Ty.str M [[(.string p1)]] [p1] := RowR.cons rfl (RowR.nil)
 refine ff rfl (gk (T := Ty.str) (rows := [[(.string p1)]]) (l := [p1]) rfl rfl rfl E rfl rfl rfl rfl rfl rfl rfl rfl (fun ai => ?_))
 obtain ⟨aj, V, H⟩ := bnd H
 have U := e.mono P
 refine ff rfl (gZ (T := Ty.str) (bytes := 16) rfl rfl rfl Mb2 U (SrcT.row Mb0 E rfl) V rfl rfl rfl rfl rfl rfl rfl rfl (fun D W Q => ⟨_, (.there (.there .here)), ?_⟩))
 refine Ow.shift (Re0 (Sd ?_))
 refine Eq Z (fD rfl)<|EF 8 Z<|?_
 refine ff rfl (So [(sv D)] [(sv j), (sv i), (sv h), (sv g), (sv f), (sv k), (.bool b), (.bool c), (sv D)] Z .here Z ?_)
 refine fb<|fc<|fa<|Ea Z<|fb<|fx<|?_
 obtain ⟨N, O⟩ := hY H
 subst m n
 refine ⟨(.inl rfl), [(.bool false)], ⟨(.bool false), _, rfl, rfl, rfl⟩, ?_⟩
 exact Pu1<|Pu1<|Sd<|⟨D, W, rfl, rfl, Q⟩
theorem yh (d : Nat) (w : ae3) (p : SV) (u : ad4) (o : SV) (t : ae1) (n : SV) (s : af5) (h : SV) (r : ae5) (g : SV) (x : ad6) (q : SV) (a : Bool) (c : Bool) (y : ae0) (b : SV) (m : List (List Value)) (p1 : ae5) (B : SV) (p2 : Int) (f : Bool) (H : o7 w u t s r x a c y p1 p2 = some f) (K : Kp) (G : List Ent) (ao : Slr (Ty.sl gC) K (sv p) w) (an : Slr f4 K (sv o) u) (am : Slr gr K (sv n) t) (O : Slr (Ty.sl Ty.bool) K (sv h) s) (N : Slr Ty.bool K (sv g) r) (ap : Slr fO K (sv q) x) (aq : RowR Ty.str K m y) (A : Slr Ty.bool K (sv B) p1) :
  Fc Tryz.prog 49 #[(Vp d), (sv B), (Vi p2)] K ((.blk d 76 [(sv p), (sv o), (sv n), (sv h), (sv g), (sv q), (.bool a), (.bool c), (sv b)]) :: (.row (sv b) 9 1 m.flatten) :: G) (fun v i e => v = (.bool f) ∧ (.blk d 76 [(sv p), (sv o), (sv n), (sv h), (sv g), (sv q), (.bool a), (.bool c), (sv b)]) :: (.row (sv b) 9 1 m.flatten) :: G = e) := by
 refine fN Tryz.func49 rfl Tryz.ntmps49 Tryz.results49 rfl ?_
 unfold o7 at H
 refine fc<|fa<|Ea Z<|fb<|fc<|?_
 refine fz (fun j i e => ∃ (J : Bool), [(0, (Vp d)), (1, (sv B)), (2, (Vi p2)), (27, (.bool J))] = j ∧ K = i ∧ (.blk d 76 [(sv p), (sv o), (sv n), (sv h), (sv g), (sv q), (.bool a), (.bool c), (sv b)]) :: (.row (sv b) 9 1 m.flatten) :: G = e ∧ nn p1 p2 w u t s r x a c y J = some f) ?_ ?_
 ·refine fa<|Em Z<|Em Z<|?_
  obtain ⟨ai, Q, H⟩ := bnd H
  obtain ⟨_, rfl, Y⟩ := Slr.at A Q
  refine Eq Z (Qi (T := Ty.bool) A Q Z)<|El (.bool ai) Z (Rdc.k Y rfl)<|Em Z<|?_
  refine Ee Z ?_ ?_
  ·intro C
   have H := ift C H
   exact Ez Z<|Ez Z<|Ez Z<|Ez Z<|Ez Z<|f0 rfl rfl rfl rfl rfl<|f0 rfl rfl rfl rfl rfl<|f0 rfl rfl rfl rfl rfl<|f0 rfl rfl rfl rfl rfl<|f0 rfl rfl rfl rfl rfl<|f0 rfl rfl rfl rfl rfl<|f0 rfl rfl rfl rfl rfl<|f0 rfl rfl rfl rfl rfl<|Ez Z<|Et Z<|fb<|Pu1<|Pu1<|Sd<|⟨_, by exact R4, true, rfl, rfl, rfl, H⟩
  ·intro C
   have H := fX (btf C) H
   refine Vm Z<|Vq Z (fD rfl)<|VF 6 Z<|Vl (.bool a) Z (Rb0 Z)<|Vm Z<|?_
   refine Ee Z ?_ ?_
   ·intro D
    have H := ift D H
    refine Vm Z<|Vq Z (fD rfl)<|VF 4 Z<|Vl (sv g) Z (Rb0 Z)<|Vm Z<|?_
    obtain ⟨W, R, H⟩ := bnd H
    obtain ⟨_, rfl, aa⟩ := Slr.at N R
    exact Vq Z (Qi (T := Ty.bool) N R Z)<|Vl (.bool W) Z (Rdc.k aa rfl)<|Vq Z (gi rfl)<|Vt Z<|Ef Z<|fb<|Pu1<|Pu1<|Sd<|⟨_, by exact R4, (!(W)), rfl, rfl, rfl, H⟩
   ·intro D
    have H := fX (btf D) H
    exact Ez Z<|Ez Z<|Ez Z<|Ez Z<|Ez Z<|Ez Z<|Ez Z<|Ez Z<|Vf Z<|Ef Z<|fb<|Pu1<|Pu1<|Sd<|⟨_, by exact R4, false, rfl, rfl, rfl, H⟩
 rintro _ _ _ - ⟨J, rfl, rfl, rfl, H⟩
 unfold nn at H
 refine fm rfl ?_ ?_
 ·intro E
  have H := ift E H
  refine fc<|fa<|Ea Z<|fb<|fx<|?_
  obtain M := gn H
  subst f
  refine ⟨(.inl rfl), [(.bool false)], ⟨(.bool false), _, rfl, rfl, rfl⟩, ?_⟩
  exact Pu1<|Pu1<|Sd<|⟨rfl, rfl⟩
 ·intro E
  have H := fX (btf E) H
  refine ft ?_
  refine fz (fun j i e => [] = j ∧ (.blk d 76 [(sv p), (sv o), (sv n), (sv h), (sv g), (sv q), (.bool a), (.bool c), (sv b)]) :: (.row (sv b) 9 1 m.flatten) :: G = e ∧ ww w u t s r x a c y = some f) ?_ ?_
  ·refine fc<|fa<|Ea Z<|fb<|fA<|?_
   refine f7 (fun n218 j i e => ∃ (l : Int), [(0, (Vp d)), (1, (sv B)), (2, (Vi p2)), (7, (Vi l))] = j ∧ K = i ∧ (.blk d 76 [(sv p), (sv o), (sv n), (sv h), (sv g), (sv q), (.bool a), (.bool c), (sv b)]) :: (.row (sv b) 9 1 m.flatten) :: G = e ∧ lp1 (wx p1 p2 w u t s r x a c y) n218 l = some f) BIG ?_ ?_
   ·exact Pu1<|Pu1<|Sd<|⟨_, by exact R4, 0, rfl, rfl, rfl, H⟩
   rintro n218 _ _ _ - ⟨l, rfl, rfl, rfl, H⟩
   obtain ⟨ar, ag, rfl, ae, H⟩ := lx H
   unfold wx at H
   refine fc<|fc<|fa<|Em Z<|Em Z<|Eq Z (gg (T := Ty.bool) A rfl rfl)<|Ec Z<|fb<|?_
   refine fm rfl ?_ ?_
   ·intro z
    obtain ⟨z, H⟩ := It z H
    refine ft<|fc<|fA<|?_
    refine fz (fun j i e => ∃ (L : Bool), [(0, (Vp d)), (1, (sv B)), (2, (Vi p2)), (7, (Vi l)), (50, (.bool L))] = j ∧ K = i ∧ (.blk d 76 [(sv p), (sv o), (sv n), (sv h), (sv g), (sv q), (.bool a), (.bool c), (sv b)]) :: (.row (sv b) 9 1 m.flatten) :: G = e ∧ s5 p1 p2 l w u t s r x a c y ag L = some f) ?_ ?_
    ·refine fa<|Em Z<|Eq Z (fD rfl)<|EF 3 Z<|El (sv h) Z (Rb0 Z)<|Em Z<|?_
     obtain ⟨av, S, H⟩ := bnd H
     obtain ⟨au, af, ab⟩ := Slr.at O S
     obtain ⟨ah, rfl, P⟩ := af
     refine Eq Z (Qi (T := (Ty.sl Ty.bool)) O S Z)<|El (sv ah) Z (Rdc.k ab rfl)<|Em Z<|?_
     obtain ⟨aj, U, H⟩ := bnd H
     obtain ⟨_, rfl, ac⟩ := Slr.at P U
     refine Eq Z (Qi (T := Ty.bool) P U Z)<|El (.bool aj) Z (Rdc.k ac rfl)<|Em Z<|?_
     refine Ee Z ?_ ?_
     ·intro F
      have H := ift F H
      refine Vm Z<|Vm Z<|?_
      obtain ⟨X, V, H⟩ := bnd H
      obtain ⟨_, rfl, ad⟩ := Slr.at A V
      exact Vq Z (Qi (T := Ty.bool) A V Z)<|Vl (.bool X) Z (Rdc.k ad rfl)<|Vq Z (gi rfl)<|Et Z<|fb<|Pu1<|Pu1<|Sd<|⟨_, by exact R5, (!(X)), rfl, rfl, rfl, H⟩
     ·intro F
      have H := fX (btf F) H
      exact Ez Z<|Ez Z<|Ez Z<|Ez Z<|Ez Z<|Ef Z<|fb<|Pu1<|Pu1<|Sd<|⟨_, by exact R5, false, rfl, rfl, rfl, H⟩
    rintro _ _ _ - ⟨L, rfl, rfl, rfl, H⟩
    unfold s5 at H
    refine fm rfl ?_ ?_
    ·intro I
     have H := ift I H
     refine fc<|fa<|Ea Z<|fb<|fx<|?_
     obtain M := gn H
     subst f
     refine ⟨(.inl rfl), [(.bool false)], ⟨(.bool false), _, rfl, rfl, rfl⟩, ?_⟩
     exact Pu1<|Pu1<|Sd<|⟨rfl, rfl⟩
    ·intro I
     have H := fX (btf I) H
     exact ft<|fa<|Em Z<|Er (wI (l + 1)) Z<|Ea Z<|fb<|Pu1<|Pu1<|Sd<|⟨_, by exact R4, _, Nat.lt_succ_self _, (wI (l + 1)), rfl, rfl, rfl, (ae ▸ H)⟩
   ·intro z
    obtain ⟨z, H⟩ := If z H
    exact f9<|Pu1<|Pu1<|Sd<|⟨[], trivial, rfl, rfl, H⟩
  rintro _ ak _ al ⟨rfl, rfl, H⟩
  unfold ww at H
  refine fc<|fa<|Ea Z<|fb<|fx<|?_
  obtain M := gn H
  subst f
  refine ⟨(.inl rfl), [(.bool true)], ⟨(.bool true), _, rfl, rfl, rfl⟩, ?_⟩
  exact Pu1<|Pu1<|Sd<|⟨rfl, rfl⟩
theorem Df (e : Nat) (x : ae3) (n : SV) (w : ad4) (m : SV) (u : ae1) (j : SV) (t : af5) (i : SV) (s : ae5) (a : SV) (y : ad6) (b : SV) (f : Bool) (g : Bool) (z : ae0) (c : SV) (h : List (List Value)) (p1 : ad0) (C : SV) (p2 : Int) (o : ad6) (H : sd x w u t s y f g z p1 p2 = some o) (K : Kp) (G : List Ent) (U : Slr (Ty.sl gC) K (sv n) x) (S : Slr f4 K (sv m) w) (R : Slr gr K (sv j) u) (Q : Slr (Ty.sl Ty.bool) K (sv i) t) (q : Slr Ty.bool K (sv a) s) (r : Slr fO K (sv b) y) (V : RowR Ty.str K h z) (W : Slr fF K (sv C) p1) :
  Fc Tryz.prog 50 #[(Vp e), (sv C), (Vi p2)] K ((.blk e 76 [(sv n), (sv m), (sv j), (sv i), (sv a), (sv b), (.bool f), (.bool g), (sv c)]) :: (.row (sv c) 9 1 h.flatten) :: G) (fun v M L => ∃ (D : SV), v = (sv D) ∧ (.blk e 76 [(sv n), (sv m), (sv j), (sv i), (sv a), (sv b), (.bool f), (.bool g), (sv c)]) :: (.tok 38 5 [(sv D)]) :: (.row (sv c) 9 1 h.flatten) :: G = L ∧ Slr fO M (sv D) o) := by
 refine fN Tryz.func50 rfl Tryz.ntmps50 Tryz.results50 rfl ?_
 unfold sd at H
 refine fc<|fa<|Ea Z<|fb<|fc<|fc<|fa<|Em Z<|Eq Z (fD rfl)<|EF 4 Z<|El (sv a) Z (Rb0 Z)<|Em Z<|?_
 obtain ⟨ag, F, H⟩ := bnd H
 obtain ⟨_, rfl, O⟩ := Slr.at q F
 refine Eq Z (Qi (T := Ty.bool) q F Z)<|El (.bool ag) Z (Rdc.k O rfl)<|fb<|?_
 refine fm rfl ?_ ?_
 ·intro p
  have H := ift p H
  refine fc<|fa<|Em Z<|Eq Z (fD rfl)<|EF 5 Z<|El (sv b) Z (Rb0 Z)<|Em Z<|?_
  obtain ⟨d, I, H⟩ := bnd H
  obtain ⟨_, rfl, P⟩ := Slr.at r I
  refine Eq Z (Qi (T := fO) r I Z)<|EL 5 (fe d) Z (Rdc.k P rfl)<|?_
  have E : RowR fO K [(fe d)] [d] := RowR.cons rfl (RowR.nil)
  refine ff rfl (gk (T := fO) (rows := [(fe d)]) (l := [d]) rfl rfl rfl E rfl rfl rfl rfl rfl rfl rfl rfl (fun A => ?_))
  refine Ea Z<|fb<|fx<|?_
  obtain N := gn H
  subst o
  refine ⟨(.inl rfl), [(sv A)], ⟨(sv A), _, rfl, rfl, rfl⟩, ?_⟩
  refine Shift.settle (T := fO) .here E rfl ?_
  intro ai ak X
  exact Pu2<|Pu1<|Pu2<|Sd<|⟨A, rfl, rfl, X⟩
 ·intro p
  have H := fX (btf p) H
  refine ft<|fc<|fa<|Em Z<|Em Z<|Em Z<|?_
  obtain ⟨J, ac, H⟩ := bnd H
  refine Ow.shift (Pu1 (Sd ?_))
  refine Ow.shift (Pu1 (Sd ?_))
  refine ff rfl (Ek Tryz.call52 Z (ny e x n w m u j t i s a y b f g z c h p2 J ac _ _ U S R Q q r V) ?_)
  rintro _ _ _ - ⟨ae, af, rfl, rfl, rfl, Y, aa⟩
  obtain ⟨ah, ad, H⟩ := bnd H
  refine ff rfl (Ek Tryz.call84 Z (ye p1 C J ae af ah ad _ _ W Y aa) ?_)
  rintro _ aj _ al ⟨B, rfl, rfl, ab⟩
  refine Ea Z<|fb<|fx<|?_
  obtain N := gn H
  subst o
  refine ⟨(.inl rfl), [(sv B)], ⟨(sv B), _, rfl, rfl, rfl⟩, ?_⟩
  exact Pu2<|Pu1<|Pu2<|Sd<|⟨B, rfl, rfl, ab⟩
theorem xm (p0 : ae5) (h : SV) (p1 : Int) (d : ae5) (H : s6 p0 p1 = some d) (K : Kp) (G : List Ent) (m : Slr Ty.bool K (sv h) p0) :
  Fc Tryz.prog 53 #[(sv h), (Vi p1)] K (G) (fun v e j => ∃ (i : SV) (g : List (List Value)), v = (sv i) ∧ K = e ∧ (.row (sv i) 4 1 g.flatten) :: G = j ∧ RowR Ty.bool e g d) := by
 refine fN Tryz.func53 rfl Tryz.ntmps53 Tryz.results53 rfl ?_
 unfold s6 at H
 refine fc<|fa<|Ea Z<|fb<|fc<|fa<|Em Z<|?_
 have k : RowR Ty.bool K [] [] := RowR.nil
 refine Ow.shift (Shift.nilRow 4 1 (Sd ?_))
 obtain ⟨x15, o, H⟩ := bnd H
 refine ff rfl (gZ (T := Ty.bool) (bytes := 1) rfl rfl rfl Mb0 k (SrcT.sl m) o rfl rfl rfl rfl rfl rfl rfl rfl (fun c p a => ⟨_, .here, ?_⟩))
 refine Ea Z<|fb<|fc<|fa<|Em Z<|Em Z<|?_
 obtain ⟨s, f, H⟩ := bnd H
 obtain ⟨r22, b, n⟩ := RowR.at a f
 obtain rfl := n
 refine Eq Z (gz (T := Ty.bool) Mb0 a b (fL f).1 rfl rfl rfl rfl rfl) ?_
 refine ff rfl (gP (T := Ty.bool) (vs := [(.bool true)]) (r' := [(.bool true)]) (l' := (f8 x15 p1 true)) rfl rfl rfl rfl rfl .here a b rfl rfl rfl (RowR.set p1 a rfl) (fun l => ?_))
 have r := iO b (v := [(.bool true)])
 refine fb<|fc<|fa<|Em Z<|Ea Z<|fb<|fx<|?_
 obtain q := gn H
 subst d
 refine ⟨(.inl rfl), [(sv c)], ⟨(sv c), _, rfl, rfl, rfl⟩, ?_⟩
 exact Sd ⟨c, (p.set p1.toNat [(.bool true)]), rfl, rfl, rfl, l⟩
end Go.Hx
namespace Go.Hx
open Go Go.Proofs
set_option maxRecDepth 10000
set_option maxHeartbeats 1000000
theorem Dh (j : Nat) (I : ae3) (y : SV) (F : ad4) (x : SV) (E : ae1) (u : SV) (D : af5) (t : SV) (C : ae5) (a : SV) (J : ad6) (b : SV) (h : Bool) (i : Bool) (L : ae0) (e : SV) (s : List (List Value)) (p1 : ad0) (ai : SV) (p2 : Int) (p3 : Int) (O : Bool) (H : se I F E D C J h i L p1 p2 p3 = some O) (K : Kp) (G : List Ent) (aw : Slr (Ty.sl gC) K (sv y) I) (av : Slr f4 K (sv x) F) (au : Slr gr K (sv u) E) (ar : Slr (Ty.sl Ty.bool) K (sv t) D) (A : Slr Ty.bool K (sv a) C) (P : Slr fO K (sv b) J) (ax : RowR Ty.str K s L) (a4 : Slr fF K (sv ai) p1) :
  Fc Tryz.prog 54 #[(Vp j), (sv ai), (Vi p2), (Vi p3)] K ((.blk j 76 [(sv y), (sv x), (sv u), (sv t), (sv a), (sv b), (.bool h), (.bool i), (sv e)]) :: (.row (sv e) 9 1 s.flatten) :: G) (fun v U z => v = (.bool O) ∧ (.blk j 76 [(sv y), (sv x), (sv u), (sv t), (sv a), (sv b), (.bool h), (.bool i), (sv e)]) :: (.row (sv e) 9 1 s.flatten) :: G = z) := by
 refine fN Tryz.func54 rfl Tryz.ntmps54 Tryz.results54 rfl ?_
 unfold se at H
 refine fc<|fa<|Ea Z<|fb<|fc<|fa<|Em Z<|Em Z<|Em Z<|?_
 obtain ⟨aH, a9, H⟩ := bnd H
 refine Ow.shift (Pu1 (Sd ?_))
 refine Ow.shift (Pu1 (Sd ?_))
 refine ff rfl (Ek Tryz.call52 Z (ny j I y F x E u D t C a J b h i L e s p2 aH a9 _ _ aw av au ar A P ax) ?_)
 rintro _ _ _ - ⟨bd, be, rfl, rfl, rfl, a5, a6⟩
 refine Em Z<|Em Z<|?_
 obtain ⟨aI, ba, H⟩ := bnd H
 refine Ow.shift (Pu1 (Sd ?_))
 refine Ow.shift (Pu1 (Sd ?_))
 refine ff rfl (Ek Tryz.call52 Z (ny j I y F x E u D t C a J b h i L e s p3 aI ba _ _ aw av au ar A P ax) ?_)
 rintro _ _ _ - ⟨bf, bg, rfl, rfl, rfl, a7, a8⟩
 obtain ⟨ap, bb, H⟩ := bnd H
 refine ff rfl (Ek Tryz.call86 Z (Ac p1 ai aH bd be aI bf bg ap bb _ _ a4 a5 a6 a7 a8) ?_)
 rintro _ aq _ p ⟨af, rfl, rfl, g⟩
 refine Ea Z<|fb<|?_
 refine fz (fun V U z => [] = V ∧ (.blk j 76 [(sv y), (sv x), (sv u), (sv t), (sv a), (sv b), (.bool h), (.bool i), (sv e)]) :: (.row (sv e) 9 1 s.flatten) :: G = z ∧ wy I F E D C J h i L = some O) ?_ ?_
 ·refine fc<|fa<|Ea Z<|fb<|fA<|?_
  refine f7 (fun aG V U z => ∃ (B : Int), [(0, (Vp j)), (2, (Vi p2)), (3, (Vi p3)), (9, (sv af)), (10, (Vi B))] = V ∧ aq = U ∧ (.blk j 76 [(sv y), (sv x), (sv u), (sv t), (sv a), (sv b), (.bool h), (.bool i), (sv e)]) :: (.tok 131 10 [(sv af)]) :: (.row (sv e) 9 1 s.flatten) :: G = z ∧ lp1 (wz p2 p3 ap I F E D C J h i L) aG B = some O) BIG ?_ ?_
  ·exact Pu2<|Pu1<|Pu2<|Sd<|⟨_, by exact R5, 0, rfl, rfl, rfl, H⟩
  rintro aG _ _ _ - ⟨B, rfl, rfl, rfl, H⟩
  obtain ⟨bj, bc, rfl, a3, H⟩ := lx H
  unfold wz at H
  refine fc<|fc<|fa<|Em Z<|Em Z<|Eq Z (gg (T := gy) g rfl rfl)<|Ec Z<|fb<|?_
  refine fm rfl ?_ ?_
  ·intro W
   obtain ⟨W, H⟩ := It W H
   refine ft<|fc<|fA<|?_
   refine fz (fun V U z => ∃ (ah : Bool), [(0, (Vp j)), (2, (Vi p2)), (3, (Vi p3)), (9, (sv af)), (10, (Vi B)), (72, (.bool ah))] = V ∧ aq = U ∧ (.blk j 76 [(sv y), (sv x), (sv u), (sv t), (sv a), (sv b), (.bool h), (.bool i), (sv e)]) :: (.tok 131 10 [(sv af)]) :: (.row (sv e) 9 1 s.flatten) :: G = z ∧ qi p2 p3 ap B I F E D C J h i L bc ah = some O) ?_ ?_
   ·obtain ⟨S, l, H⟩ := bnd H
    rcases gR (!(S)) with f | f <;> revert f
    ·intro c
     have c := ix c
     have H := fX (btf c) H
     obtain ⟨aj, ad, H⟩ := bnd H
     rcases gR (!(aj)) with f | f <;> revert f
     ·intro n
      have n := ix n
      have H := fX (btf n) H
      refine fq _ rfl (Ic Mb0 (Ic Mb1 (Ic Mb2 In0)))<|Jm 0 Z<|Jq 1 Z (fD rfl)<|JF 2 4 Z<|Jl 3 (sv a) Z (Rb0 Z)<|Jm 4 Z<|?_
      have X := A.mono p
      obtain ⟨_, rfl, aK⟩ := Slr.at X l
      refine Jq 5 Z (Qi (T := Ty.bool) X l Z)<|Jl 6 (.bool S) Z (Rdc.k aK rfl)<|Jq 7 Z (gi rfl)<|Jm 8 Z<|Aw.known (d := 33) rfl (lK (c))<|Jz 9 Z<|Jz 10 Z<|Jz 11 Z<|Jz 12 Z<|Jz 13 Z<|Jz 14 Z<|Jz 15 Z<|Jz 16 Z<|Jz 17 Z<|Jz 18 Z<|Jz 19 Z<|Jz 20 Z<|Jz 21 Z<|Jt 22 Z<|Jm 23 Z<|Bm 24 Z<|Bq 25 Z (fD rfl)<|?_
      refine BF 26 4 Z<|Bl 27 (sv a) Z (Rb0 Z)<|Bm 28 Z<|?_
      obtain ⟨_, rfl, aL⟩ := Slr.at X ad
      refine Bq 29 Z (Qi (T := Ty.bool) X ad Z)<|Bl 30 (.bool aj) Z (Rdc.k aL rfl)<|Bq 31 Z (gi rfl)<|Bm 32 Z<|Aw.known (d := 57) rfl (lK (n))<|Jz 33 Z<|Jz 34 Z<|Jz 35 Z<|Jz 36 Z<|Jz 37 Z<|Jz 38 Z<|Jz 39 Z<|Jz 40 Z<|Jz 41 Z<|Jz 42 Z<|Jz 43 Z<|Jz 44 Z<|Jz 45 Z<|Bt 46 Z<|Jt 47 Z<|Ad<|Pu2<|?_
      exact Pu2<|Pu2<|Sd<|⟨_, by exact R6, true, rfl, rfl, rfl, H⟩
     ·intro n
      have n := iw n
      have H := ift n H
      obtain ⟨ak, aC, H⟩ := bnd H
      obtain ⟨al, aD, H⟩ := bnd H
      refine fq _ rfl (Ic Mb0 (Ic Mb1 (Ic Mb2 In0)))<|Jm 0 Z<|Jq 1 Z (fD rfl)<|JF 2 4 Z<|Jl 3 (sv a) Z (Rb0 Z)<|Jm 4 Z<|?_
      have Y := A.mono p
      obtain ⟨_, rfl, aM⟩ := Slr.at Y l
      refine Jq 5 Z (Qi (T := Ty.bool) Y l Z)<|Jl 6 (.bool S) Z (Rdc.k aM rfl)<|Jq 7 Z (gi rfl)<|Jm 8 Z<|Aw.known (d := 33) rfl (lK (c))<|Jz 9 Z<|Jz 10 Z<|Jz 11 Z<|Jz 12 Z<|Jz 13 Z<|Jz 14 Z<|Jz 15 Z<|Jz 16 Z<|Jz 17 Z<|Jz 18 Z<|Jz 19 Z<|Jz 20 Z<|Jz 21 Z<|Jt 22 Z<|Jm 23 Z<|Bm 24 Z<|Bq 25 Z (fD rfl)<|?_
      refine BF 26 4 Z<|Bl 27 (sv a) Z (Rb0 Z)<|Bm 28 Z<|?_
      obtain ⟨_, rfl, aN⟩ := Slr.at Y ad
      refine Bq 29 Z (Qi (T := Ty.bool) Y ad Z)<|Bl 30 (.bool aj) Z (Rdc.k aN rfl)<|Bq 31 Z (gi rfl)<|Bm 32 Z<|Aw.known (d := 57) rfl (lJ (n))<|Bm 33 Z<|Bq 34 Z (fD rfl)<|BF 35 5 Z<|Bl 36 (sv b) Z (Rb0 Z)<|Bm 37 Z<|?_
      have ay := P.mono p
      obtain ⟨_, rfl, aO⟩ := Slr.at ay aC
      refine Bq 38 Z (Qi (T := fO) ay aC Z)<|BL 39 5 (fe ak) Z (Rdc.k aO rfl)<|Bm 40 Z<|Bm 41 Z<|?_
      obtain ⟨_, rfl, aP⟩ := Slr.at g aD
      exact Bq 42 Z (Qi (T := gy) g aD Z)<|Bq 43 Z (ic (q := 1) (m := 5) rfl rfl rfl rfl rfl (by decide) rfl (by decide))<|BL 44 5 (fe al.x1) Z (Rdc.k aP rfl)<|Bq 45 Z (jy rfl rfl (fun w => Result.eqrun ak al.x1 w) (by kernel_rfl))<|Bf 46 Z<|Jt 47 Z<|Ad<|Pu2<|Pu2<|Pu2<|Sd<|⟨_, by exact R6, (dcd (ak = al.x1)), rfl, rfl, rfl, H⟩
    ·intro c
     have c := iw c
     have H := ift c H
     obtain ⟨M, Q, H⟩ := bnd H
     obtain ⟨N, R, H⟩ := bnd H
     rcases gR (dcd (M = N.x0)) with f | f <;> revert f
     ·intro r
      obtain ⟨r, H⟩ := It r H
      obtain ⟨am, ae, H⟩ := bnd H
      rcases gR (!(am)) with f | f <;> revert f
      ·intro o
       have o := ix o
       have H := fX (btf o) H
       refine fq _ rfl (Ic Mb0 (Ic Mb1 (Ic Mb2 In0)))<|Jm 0 Z<|Jq 1 Z (fD rfl)<|JF 2 4 Z<|Jl 3 (sv a) Z (Rb0 Z)<|Jm 4 Z<|?_
       have aa := A.mono p
       obtain ⟨_, rfl, aQ⟩ := Slr.at aa l
       refine Jq 5 Z (Qi (T := Ty.bool) aa l Z)<|Jl 6 (.bool S) Z (Rdc.k aQ rfl)<|Jq 7 Z (gi rfl)<|Jm 8 Z<|Aw.known (d := 33) rfl (lJ (c))<|Bm 9 Z<|Bq 10 Z (fD rfl)<|BF 11 5 Z<|Bl 12 (sv b) Z (Rb0 Z)<|Bm 13 Z<|?_
       have az := P.mono p
       obtain ⟨_, rfl, aR⟩ := Slr.at az Q
       refine Bq 14 Z (Qi (T := fO) az Q Z)<|BL 15 5 (fe M) Z (Rdc.k aR rfl)<|Bm 16 Z<|Bm 17 Z<|?_
       obtain ⟨_, rfl, aS⟩ := Slr.at g R
       refine Bq 18 Z (Qi (T := gy) g R Z)<|Bq 19 Z (ic (q := 0) (m := 0) rfl rfl rfl rfl rfl (by decide) rfl (by decide))<|BL 20 5 (fe N.x0) Z (Rdc.k aS rfl)<|Bq 21 Z (jy rfl rfl (fun w => Result.eqrun M N.x0 w) (by kernel_rfl))<|Jf 22 Z<|Jm 23 Z<|Aw.known (d := 48) rfl (hZ r)<|Bm 24 Z<|Bq 25 Z (fD rfl)<|BF 26 4 Z<|Bl 27 (sv a) Z (Rb0 Z)<|Bm 28 Z<|?_
       obtain ⟨_, rfl, aT⟩ := Slr.at aa ae
       refine Bq 29 Z (Qi (T := Ty.bool) aa ae Z)<|Bl 30 (.bool am) Z (Rdc.k aT rfl)<|Bq 31 Z (gi rfl)<|Bm 32 Z<|Aw.known (d := 57) rfl (lK (o))<|Jz 33 Z<|Jz 34 Z<|Jz 35 Z<|Jz 36 Z<|Jz 37 Z<|Jz 38 Z<|Jz 39 Z<|Jz 40 Z<|Jz 41 Z<|Jz 42 Z<|Jz 43 Z<|Jz 44 Z<|Jz 45 Z<|Bt 46 Z<|Jt 47 Z<|Ad<|Pu2<|?_
       exact Pu2<|Pu2<|Sd<|⟨_, by exact R6, true, rfl, rfl, rfl, H⟩
      ·intro o
       have o := iw o
       have H := ift o H
       obtain ⟨an, aE, H⟩ := bnd H
       obtain ⟨ao, aF, H⟩ := bnd H
       refine fq _ rfl (Ic Mb0 (Ic Mb1 (Ic Mb2 In0)))<|Jm 0 Z<|Jq 1 Z (fD rfl)<|JF 2 4 Z<|Jl 3 (sv a) Z (Rb0 Z)<|Jm 4 Z<|?_
       have ab := A.mono p
       obtain ⟨_, rfl, aU⟩ := Slr.at ab l
       refine Jq 5 Z (Qi (T := Ty.bool) ab l Z)<|Jl 6 (.bool S) Z (Rdc.k aU rfl)<|Jq 7 Z (gi rfl)<|Jm 8 Z<|Aw.known (d := 33) rfl (lJ (c))<|Bm 9 Z<|Bq 10 Z (fD rfl)<|BF 11 5 Z<|Bl 12 (sv b) Z (Rb0 Z)<|Bm 13 Z<|?_
       have ac := P.mono p
       obtain ⟨_, rfl, aV⟩ := Slr.at ac Q
       refine Bq 14 Z (Qi (T := fO) ac Q Z)<|BL 15 5 (fe M) Z (Rdc.k aV rfl)<|Bm 16 Z<|Bm 17 Z<|?_
       obtain ⟨_, rfl, aW⟩ := Slr.at g R
       refine Bq 18 Z (Qi (T := gy) g R Z)<|Bq 19 Z (ic (q := 0) (m := 0) rfl rfl rfl rfl rfl (by decide) rfl (by decide))<|BL 20 5 (fe N.x0) Z (Rdc.k aW rfl)<|Bq 21 Z (jy rfl rfl (fun w => Result.eqrun M N.x0 w) (by kernel_rfl))<|Jf 22 Z<|Jm 23 Z<|Aw.known (d := 48) rfl (hZ r)<|Bm 24 Z<|Bq 25 Z (fD rfl)<|BF 26 4 Z<|Bl 27 (sv a) Z (Rb0 Z)<|Bm 28 Z<|?_
       obtain ⟨_, rfl, aX⟩ := Slr.at ab ae
       refine Bq 29 Z (Qi (T := Ty.bool) ab ae Z)<|Bl 30 (.bool am) Z (Rdc.k aX rfl)<|Bq 31 Z (gi rfl)<|Bm 32 Z<|Aw.known (d := 57) rfl (lJ (o))<|Bm 33 Z<|Bq 34 Z (fD rfl)<|BF 35 5 Z<|Bl 36 (sv b) Z (Rb0 Z)<|Bm 37 Z<|?_
       obtain ⟨_, rfl, aY⟩ := Slr.at ac aE
       refine Bq 38 Z (Qi (T := fO) ac aE Z)<|BL 39 5 (fe an) Z (Rdc.k aY rfl)<|Bm 40 Z<|Bm 41 Z<|?_
       obtain ⟨_, rfl, aZ⟩ := Slr.at g aF
       exact Bq 42 Z (Qi (T := gy) g aF Z)<|Bq 43 Z (ic (q := 1) (m := 5) rfl rfl rfl rfl rfl (by decide) rfl (by decide))<|BL 44 5 (fe ao.x1) Z (Rdc.k aZ rfl)<|Bq 45 Z (jy rfl rfl (fun w => Result.eqrun an ao.x1 w) (by kernel_rfl))<|Bf 46 Z<|Jt 47 Z<|Ad<|Pu2<|Pu2<|Pu2<|Sd<|⟨_, by exact R6, (dcd (an = ao.x1)), rfl, rfl, rfl, H⟩
     ·intro r
      obtain ⟨r, H⟩ := If r H
      refine fq _ rfl (Ic Mb0 (Ic Mb1 (Ic Mb2 In0)))<|Jm 0 Z<|Jq 1 Z (fD rfl)<|JF 2 4 Z<|Jl 3 (sv a) Z (Rb0 Z)<|Jm 4 Z<|?_
      have aA := A.mono p
      obtain ⟨_, rfl, a0⟩ := Slr.at aA l
      refine Jq 5 Z (Qi (T := Ty.bool) aA l Z)<|Jl 6 (.bool S) Z (Rdc.k a0 rfl)<|Jq 7 Z (gi rfl)<|Jm 8 Z<|Aw.known (d := 33) rfl (lJ (c))<|Bm 9 Z<|Bq 10 Z (fD rfl)<|BF 11 5 Z<|Bl 12 (sv b) Z (Rb0 Z)<|Bm 13 Z<|?_
      have aB := P.mono p
      obtain ⟨_, rfl, a1⟩ := Slr.at aB Q
      refine Bq 14 Z (Qi (T := fO) aB Q Z)<|BL 15 5 (fe M) Z (Rdc.k a1 rfl)<|Bm 16 Z<|Bm 17 Z<|?_
      obtain ⟨_, rfl, a2⟩ := Slr.at g R
      refine Bq 18 Z (Qi (T := gy) g R Z)<|Bq 19 Z (ic (q := 0) (m := 0) rfl rfl rfl rfl rfl (by decide) rfl (by decide))<|BL 20 5 (fe N.x0) Z (Rdc.k a2 rfl)<|Bq 21 Z (jy rfl rfl (fun w => Result.eqrun M N.x0 w) (by kernel_rfl))<|Jf 22 Z<|Jm 23 Z<|Aw.known (d := 48) rfl (iq r)<|Jz 24 Z<|Jz 25 Z<|Jz 26 Z<|Jz 27 Z<|Jz 28 Z<|Jz 29 Z<|Jz 30 Z<|Jz 31 Z<|Jz 32 Z<|gX 33 rfl (by kernel_rfl) (by kernel_rfl) (by kernel_rfl) rfl rfl rfl rfl rfl<|gX 34 rfl (by kernel_rfl) (by kernel_rfl) (by kernel_rfl) rfl rfl rfl rfl rfl<|gX 35 rfl (by kernel_rfl) (by kernel_rfl) (by kernel_rfl) rfl rfl rfl rfl rfl<|gX 36 rfl (by kernel_rfl) (by kernel_rfl) (by kernel_rfl) rfl rfl rfl rfl rfl<|gX 37 rfl (by kernel_rfl) (by kernel_rfl) (by kernel_rfl) rfl rfl rfl rfl rfl<|gX 38 rfl (by kernel_rfl) (by kernel_rfl) (by kernel_rfl) rfl rfl rfl rfl rfl<|?_
      exact gX 39 rfl (by kernel_rfl) (by kernel_rfl) (by kernel_rfl) rfl rfl rfl rfl rfl<|gX 40 rfl (by kernel_rfl) (by kernel_rfl) (by kernel_rfl) rfl rfl rfl rfl rfl<|gX 41 rfl (by kernel_rfl) (by kernel_rfl) (by kernel_rfl) rfl rfl rfl rfl rfl<|gX 42 rfl (by kernel_rfl) (by kernel_rfl) (by kernel_rfl) rfl rfl rfl rfl rfl<|gX 43 rfl (by kernel_rfl) (by kernel_rfl) (by kernel_rfl) rfl rfl rfl rfl rfl<|gX 44 rfl (by kernel_rfl) (by kernel_rfl) (by kernel_rfl) rfl rfl rfl rfl rfl<|gX 45 rfl (by kernel_rfl) (by kernel_rfl) (by kernel_rfl) rfl rfl rfl rfl rfl<|Jz 46 Z<|Jf 47 Z<|Ad<|Pu2<|Pu2<|Pu2<|Sd<|⟨_, by exact R6, false, rfl, rfl, rfl, H⟩
   rintro _ _ _ - ⟨ah, rfl, rfl, rfl, H⟩
   unfold qi at H
   refine fm rfl ?_ ?_
   ·intro ag
    have H := ift ag H
    refine fc<|fa<|Ea Z<|fb<|fx<|?_
    obtain aJ := gn H
    subst O
    refine ⟨(.inl rfl), [(.bool true)], ⟨(.bool true), _, rfl, rfl, rfl⟩, ?_⟩
    exact Pu2<|Pu1<|Re2<|Sd<|⟨rfl, rfl⟩
   ·intro ag
    have H := fX (btf ag) H
    exact ft<|fa<|Em Z<|Er (wI (B + 1)) Z<|Ea Z<|fb<|Pu2<|Pu2<|Pu2<|Sd<|⟨_, by exact R5, _, Nat.lt_succ_self _, (wI (B + 1)), rfl, rfl, rfl, (a3 ▸ H)⟩
  ·intro W
   obtain ⟨W, H⟩ := If W H
   exact f9<|Pu2<|Pu1<|Re2<|Sd<|⟨[], trivial, rfl, rfl, H⟩
 rintro _ bh _ bi ⟨rfl, rfl, H⟩
 unfold wy at H
 refine fc<|fa<|Ea Z<|fb<|fx<|?_
 obtain aJ := gn H
 subst O
 refine ⟨(.inl rfl), [(.bool false)], ⟨(.bool false), _, rfl, rfl, rfl⟩, ?_⟩
 exact Pu1<|Pu1<|Sd<|⟨rfl, rfl⟩
theorem xg (fu : Nat) : ∀ (c : Nat) (i : ae3) (p : SV) (h : ad4) (o : SV) (g : ae1) (n : SV) (f : af5) (m : SV) (e : ae5) (l : SV) (j : ad6) (q : SV) (a : Bool) (b : Bool) (ad : ae0) (ah : SV) (af : List (List Value)) (p1 : ae5) (x : SV) (p2 : ad0) (y : SV) (r : Bool) (s : ae0) (H : pS fu i h g f e j a b ad p1 p2 = some (r, s)) (K : Kp) (G : List Ent) (aC : Slr (Ty.sl gC) K (sv p) i) (aB : Slr f4 K (sv o) h) (aA : Slr gr K (sv n) g) (az : Slr (Ty.sl Ty.bool) K (sv m) f) (ay : Slr Ty.bool K (sv l) e) (aD : Slr fO K (sv q) j) (am : RowR Ty.str K af ad) (aE : Slr Ty.bool K (sv x) p1) (aF : Slr fF K (sv y) p2),
  Fc Tryz.prog 26 #[(Vp c), (sv x), (sv y)] K ((.blk c 76 [(sv p), (sv o), (sv n), (sv m), (sv l), (sv q), (.bool a), (.bool b), (sv ah)]) :: (.row (sv ah) 9 1 af.flatten) :: G) (fun v u t => ∃ (bW : SV) (bU : List (List Value)), v = (.bool r) ∧ (.blk c 76 [(sv p), (sv o), (sv n), (sv m), (sv l), (sv q), (.bool a), (.bool b), (sv bW)]) :: (.row (sv bW) 9 1 bU.flatten) :: G = t ∧ RowR Ty.str u bU s) := by
 induction fu with
 | zero => intro c i p h o g n f m e l j q a b ad ah af p1 x p2 y r s H K G aC aB aA az ay aD am aE aF; cases H
 | succ fu ih =>
 intro c i p h o g n f m e l j q a b ad ah af p1 x p2 y r s H K G aC aB aA az ay aD am aE aF
 have H : sf (pS fu) i h g f e j a b ad p1 p2 = some (r, s) := H
 generalize pS fu = rc at H ih
 refine fN Tryz.func26 rfl Tryz.ntmps26 Tryz.results26 rfl ?_
 unfold sf at H
 refine fc<|fa<|Ea Z<|fb<|fc<|fc<|fa<|Em Z<|Em Z<|Em Z<|?_
 obtain ⟨dm, c3, H⟩ := bnd H
 refine Ow.shift (Pu1 (Sd ?_))
 refine Ow.shift (Pu1 (Sd ?_))
 refine ff rfl (Ek Tryz.call46 Z (Da c i p h o g n f m e l j q a b ad ah af p1 x p2 y dm c3 _ _ aC aB aA az ay aD am aE aF) ?_)
 rintro _ dH _ D ⟨rfl, rfl⟩
 refine fb ?_
 refine fm rfl ?_ ?_
 ·intro aX
  have H := ift aX H
  refine fc<|fa<|Ea Z<|fb<|fx<|?_
  obtain ⟨ar, au⟩ := hY H
  subst r s
  refine ⟨(.inl rfl), [(.bool true)], ⟨(.bool true), _, rfl, rfl, rfl⟩, ?_⟩
  refine Pu1<|Pu1<|?_
  have cQ := am.mono D
  exact Sd ⟨ah, af, rfl, rfl, cQ⟩
 ·intro aX
  have H := fX (btf aX) H
  refine ft<|fc<|fc<|fa<|Em Z<|Em Z<|Em Z<|?_
  obtain ⟨b7, c4, H⟩ := bnd H
  have bG := aE.mono D
  have bH := aF.mono D
  refine ff rfl (Ek Tryz.call48 Z (Db p1 x p2 y b7 c4 _ _ bG bH) ?_)
  rintro _ dI _ J ⟨rfl, rfl⟩
  obtain ⟨dn, b8, c5, H⟩ := ir H
  refine Ow.shift (Pu1 (Sd ?_))
  refine Ow.shift (Pu1 (Sd ?_))
  have bI := (aC.mono D).mono J
  have bJ := (aB.mono D).mono J
  have bK := (aA.mono D).mono J
  have bL := (az.mono D).mono J
  have bM := (ay.mono D).mono J
  have bN := (aD.mono D).mono J
  have cR := (am.mono D).mono J
  refine ff rfl (Ek Tryz.call47 Z (Dc c i p h o g n f m e l j q a b ad ah af b7 dn b8 c5 _ _ bI bJ bK bL bM bN cR) ?_)
  rintro _ dJ _ V ⟨bV, bT, rfl, rfl, bO⟩
  refine fb ?_
  refine fm rfl ?_ ?_
  ·intro aY
   have H := ift aY H
   refine fc<|fa<|Ea Z<|fb<|fx<|?_
   obtain ⟨ar, au⟩ := hY H
   subst r s
   refine ⟨(.inl rfl), [(.bool false)], ⟨(.bool false), _, rfl, rfl, rfl⟩, ?_⟩
   exact Pu1<|Pu1<|Sd<|⟨bV, bT, rfl, rfl, bO⟩
  ·intro aY
   have H := fX (btf aY) H
   refine ft ?_
   refine fz (fun z u t => ∃ (aO : SV) (a9 : ae0) (aL : List (List Value)), [] = z ∧ (.blk c 76 [(sv p), (sv o), (sv n), (sv m), (sv l), (sv q), (.bool a), (.bool b), (sv aO)]) :: (.row (sv aO) 9 1 aL.flatten) :: G = t ∧ wA i h g f e j a b rc a9 = some (r, s) ∧ RowR Ty.str u aL a9) ?_ ?_
   ·refine fc<|fa<|Ea Z<|fb<|fA<|?_
    refine f7 (fun bQ z u t => ∃ (d : Int) (Y : SV) (W : ae0) (X : List (List Value)), [(0, (Vp c)), (1, (sv x)), (2, (sv y)), (7, (Vi d))] = z ∧ (.blk c 76 [(sv p), (sv o), (sv n), (sv m), (sv l), (sv q), (.bool a), (.bool b), (sv Y)]) :: (.row (sv Y) 9 1 X.flatten) :: G = t ∧ lp2 (wG p1 p2 i h g f e j a b rc) bQ d W = some (r, s) ∧ RowR Ty.str u X W) BIG ?_ ?_
    ·exact Pu1<|Pu1<|Sd<|⟨_, by exact R4, 0, bV, b8, bT, rfl, rfl, H, bO⟩
    rintro bQ _ dp _ O ⟨d, Y, W, X, rfl, rfl, H, av⟩
    obtain ⟨dQ, ai, rfl, cd, H⟩ := jL H
    unfold wG at H
    refine fc<|fc<|fa<|Em Z<|Em Z<|?_
    have aG := ((bG.mono J).mono V).mono O
    refine Eq Z (gg (T := Ty.bool) aG rfl rfl)<|Ec Z<|fb<|?_
    refine fm rfl ?_ ?_
    ·intro aj
     obtain ⟨aj, H⟩ := It aj H
     refine ft ?_
     refine fz (fun z u t => ∃ (aP : SV) (aH : ae0) (aM : List (List Value)), [(0, (Vp c)), (1, (sv x)), (2, (sv y)), (7, (Vi d))] = z ∧ (.blk c 76 [(sv p), (sv o), (sv n), (sv m), (sv l), (sv q), (.bool a), (.bool b), (sv aP)]) :: (.row (sv aP) 9 1 aM.flatten) :: G = t ∧ o8 p1 p2 d i h g f e j a b ai rc aH = some (r, s) ∧ RowR Ty.str u aM aH) ?_ ?_
     ·refine fA<|fc<|fc<|fa<|Em Z<|Em Z<|Em Z<|?_
      obtain ⟨di, cS, H⟩ := bnd H
      refine Ow.shift (Pu1 (Sd ?_))
      refine Ow.shift (Pu1 (Sd ?_))
      have bf := (bI.mono V).mono O
      have bg := (bJ.mono V).mono O
      have bh := (bK.mono V).mono O
      have bi := (bL.mono V).mono O
      have bj := (bM.mono V).mono O
      have bk := (bN.mono V).mono O
      refine ff rfl (Ek Tryz.call49 Z (yh c i p h o g n f m e l j q a b W Y X p1 x d di cS _ _ bf bg bh bi bj bk av aG) ?_)
      rintro _ dq _ A ⟨rfl, rfl⟩
      refine Eq Z (gi rfl)<|fb<|?_
      refine fm rfl ?_ ?_
      ·intro aa
       have aa := ix aa
       have H := fX (btf aa) H
       refine f9<|Pu1<|Pu1<|?_
       have cg := av.mono A
       exact Sd ⟨_, by exact R4, Y, W, X, rfl, rfl, H, cg⟩
      ·intro aa
       have aa := iw aa
       have H := ift aa H
       refine ft<|fc<|fa<|Em Z<|Em Z<|Em Z<|?_
       obtain ⟨bc, cT, H⟩ := bnd H
       refine Ow.shift (Pu1 (Sd ?_))
       refine Ow.shift (Pu1 (Sd ?_))
       have aZ := bf.mono A
       have a0 := bg.mono A
       have a1 := bh.mono A
       have a2 := bi.mono A
       have a3 := bj.mono A
       have a4 := bk.mono A
       have bl := av.mono A
       have a5 := (((bH.mono J).mono V).mono O).mono A
       refine ff rfl (Ek Tryz.call50 Z (Df c i p h o g n f m e l j q a b W Y X p2 y d bc cT _ _ aZ a0 a1 a2 a3 a4 bl a5) ?_)
       rintro _ dr _ w ⟨aQ, rfl, rfl, ch⟩
       refine Ea Z<|fb<|?_
       refine fz (fun z u t => ∃ (aR : SV) (aI : ae0) (aN : List (List Value)), [(0, (Vp c)), (1, (sv x)), (2, (sv y)), (7, (Vi d))] = z ∧ (.blk c 76 [(sv p), (sv o), (sv n), (sv m), (sv l), (sv q), (.bool a), (.bool b), (sv aR)]) :: (.row (sv aR) 9 1 aN.flatten) :: G = t ∧ wE p1 p2 d i h g f e j a b ai rc aI = some (r, s) ∧ RowR Ty.str u aN aI) ?_ ?_
       ·refine fc<|fa<|Ea Z<|fb<|fA<|?_
        refine f7 (fun bR z u t => ∃ (ab : Int) (ag : SV) (ac : ae0) (ae : List (List Value)), [(0, (Vp c)), (1, (sv x)), (2, (sv y)), (7, (Vi d)), (8, (sv aQ)), (9, (Vi ab))] = z ∧ (.blk c 76 [(sv p), (sv o), (sv n), (sv m), (sv l), (sv q), (.bool a), (.bool b), (sv ag)]) :: (.row (sv ag) 9 1 ae.flatten) :: (.tok 38 5 [(sv aQ)]) :: G = t ∧ lp2 (wF p1 p2 d bc i h g f e j a b ai rc) bR ab ac = some (r, s) ∧ RowR Ty.str u ae ac) BIG ?_ ?_
        ·refine Pu1<|Pu2<|Pu2<|?_
         have ci := bl.mono w
         exact Sd ⟨_, by exact R6, 0, Y, W, X, rfl, rfl, H, ci⟩
        rintro bR _ ds _ F ⟨ab, ag, ac, ae, rfl, rfl, H, aw⟩
        obtain ⟨dR, c6, rfl, ce, H⟩ := jL H
        unfold wF at H
        refine fc<|fc<|fa<|Em Z<|Em Z<|?_
        have a6 := ch.mono F
        refine Eq Z (gg (T := fO) a6 rfl rfl)<|Ec Z<|fb<|?_
        refine fm rfl ?_ ?_
        ·intro ak
         obtain ⟨ak, H⟩ := It ak H
         refine ft<|fc<|fA<|fc<|?_
         obtain ⟨bX, cU, H⟩ := bnd H
         obtain ⟨bY, bP, H⟩ := bnd H
         obtain ⟨bZ, dj, cV, H⟩ := ir H
         refine fq _ rfl (Ic Mb0 (Ic Mb1 (Ic Mb2 In0)))<|Jm 0 Z<|Jm 1 Z<|Jm 2 Z<|Jm 4 Z<|Jm 5 Z<|?_
         obtain ⟨_, rfl, cc⟩ := Slr.at a6 bP
         refine Jq 6 Z (Qi (T := fO) a6 bP Z)<|JL 7 5 (fe bY) Z (Rdc.k cc rfl)<|?_
         refine Ao 3 Z ?_
         refine OpW.shift (Pu1 (Sd ?_))
         refine OpW.shift (Pu1 (Sd ?_))
         have bm := (aZ.mono w).mono F
         have bn := (a0.mono w).mono F
         have bo := (a1.mono w).mono F
         have bp := (a2.mono w).mono F
         have bq := (a3.mono w).mono F
         have br := (a4.mono w).mono F
         refine Ek Tryz.call52 Z (ny c i p h o g n f m e l j q a b ac ag ae d bX cU _ _ bm bn bo bp bq br aw) ?_
         rintro _ _ _ - ⟨da, db, rfl, rfl, rfl, cj, ck⟩
         refine ⟨(Ic Mb0 (Ic Mb1 (Ic Mb2 In0))), ?_⟩
         refine Ao 8 Z ?_
         have cl := (a5.mono w).mono F
         refine Ek Tryz.call51 Z (qt p2 y bX da db bY bZ dj cV _ _ cl cj ck) ?_
         rintro _ dt _ I ⟨dc, rfl, rfl, cm⟩
         refine ⟨(Ic Mb0 (Ic Mb1 (Ic Mb2 In0))), ?_⟩
         refine Jm 9 Z<|Jx 10 Z<|Jx 11 Z<|Ja 12 Z<|Ja 13 Z<|Ad<|?_
         refine fz (fun z u t => ∃ (ba : Bool) (ap : SV) (aJ : ae0) (an : List (List Value)), [(0, (Vp c)), (1, (sv x)), (2, (sv y)), (7, (Vi d)), (8, (sv aQ)), (9, (Vi ab)), (63, (.bool ba))] = z ∧ (.blk c 76 [(sv p), (sv o), (sv n), (sv m), (sv l), (sv q), (.bool a), (.bool b), (sv ap)]) :: (.row (sv ap) 9 1 an.flatten) :: (.tok 38 5 [(sv aQ)]) :: G = t ∧ s7 p1 p2 d bc ab i h g f e j a b ai c6 rc ba aJ = some (r, s) ∧ RowR Ty.str u an aJ) ?_ ?_
         ·refine fa<|Em Z<|Em Z<|?_
          refine Ee Z ?_ ?_
          ·intro aS
           have H := ift aS H
           refine Vm Z<|Vm Z<|Vm Z<|?_
           obtain ⟨b0, cW, H⟩ := bnd H
           have cn := (((aG.mono A).mono w).mono F).mono I
           refine ib rfl rfl rfl rfl (Ek Tryz.call53 Z (xm p1 x d b0 cW _ _ cn) ?_)
           rintro _ _ _ - ⟨dd, dT, rfl, rfl, rfl, co⟩
           refine Vm Z ?_
           refine Ow.shift (Shift.settle (T := Ty.bool) .here co rfl (fun du P cp => Sd ?_))
           obtain ⟨b1, b2, cX, H⟩ := ir H
           refine Ow.shift (Pu2 (Sd ?_))
           refine Ow.shift (Pu2 (Sd ?_))
           have cq := (bm.mono I).mono P
           have cr := (bn.mono I).mono P
           have cs := (bo.mono I).mono P
           have ct := (bp.mono I).mono P
           have cu := (bq.mono I).mono P
           have cv := (br.mono I).mono P
           have cw := (aw.mono I).mono P
           have cx := cm.mono P
           refine ib rfl rfl rfl rfl (Ek Tryz.call26 Z (ih c i p h o g n f m e l j q a b ac ag ae b0 dd bZ dc b1 b2 cX _ _ cq cr cs ct cu cv cw cp cx) ?_)
           rintro _ dv _ dK ⟨de, c8, rfl, rfl, cy⟩
           exact Et Z<|fb<|Pu3<|Pu2<|Pu2<|Re3<|Sd<|⟨_, by exact R7, b1, de, b2, c8, rfl, rfl, H, cy⟩
          ·intro aS
           have H := fX (btf aS) H
           refine Ez Z<|Ez Z<|Ez Z<|Ez Z<|Ez Z<|Ez Z<|Ef Z<|fb<|Pu2<|Pu2<|Pu2<|?_
           have cz := aw.mono I
           exact Sd ⟨_, by exact R7, false, ag, ac, ae, rfl, rfl, H, cz⟩
         rintro _ dw _ dL ⟨ba, ap, aJ, an, rfl, rfl, H, bd⟩
         unfold s7 at H
         refine fm rfl ?_ ?_
         ·intro aT
          have H := ift aT H
          refine fc<|fa<|Ea Z<|fb<|fx<|?_
          obtain ⟨ar, au⟩ := hY H
          subst r s
          refine ⟨(.inl rfl), [(.bool true)], ⟨(.bool true), _, rfl, rfl, rfl⟩, ?_⟩
          exact Pu1<|Pu1<|Re2<|Sd<|⟨ap, an, rfl, rfl, bd⟩
         ·intro aT
          have H := fX (btf aT) H
          exact ft<|fa<|Em Z<|Er (wI (ab + 1)) Z<|Ea Z<|fb<|Pu2<|Pu2<|Pu2<|Sd<|⟨_, by exact R6, _, Nat.lt_succ_self _, (wI (ab + 1)), ap, aJ, an, rfl, rfl, (ce ▸ H), bd⟩
        ·intro ak
         obtain ⟨ak, H⟩ := If ak H
         exact f9<|Pu1<|Pu1<|Re2<|Sd<|⟨_, by exact R4, ag, ac, ae, rfl, rfl, H, aw⟩
       rintro _ dx _ Q ⟨aR, aI, aN, rfl, rfl, H, cb⟩
       unfold wE at H
       refine fc<|fa<|Em Z<|Er (wI (d + 1)) Z<|Ea Z<|fb<|fA<|?_
       refine f7 (fun bS z u t => ∃ (E : Int) (N : SV) (L : ae0) (M : List (List Value)), [(0, (Vp c)), (1, (sv x)), (2, (sv y)), (7, (Vi d)), (12, (Vi E))] = z ∧ (.blk c 76 [(sv p), (sv o), (sv n), (sv m), (sv l), (sv q), (.bool a), (.bool b), (sv N)]) :: (.row (sv N) 9 1 M.flatten) :: G = t ∧ lp2 (wC p1 p2 d i h g f e j a b ai rc) bS E L = some (r, s) ∧ RowR Ty.str u M L) BIG ?_ ?_
       ·exact Pu1<|Pu1<|Sd<|⟨_, by exact R5, (wI (d + 1)), aR, aI, aN, rfl, rfl, H, cb⟩
       rintro bS _ dy _ R ⟨E, N, L, M, rfl, rfl, H, ax⟩
       obtain ⟨dS, c7, rfl, cf, H⟩ := jL H
       unfold wC at H
       refine fc<|fc<|fa<|Em Z<|Em Z<|?_
       have a7 := (((aG.mono A).mono w).mono Q).mono R
       refine Eq Z (gg (T := Ty.bool) a7 rfl rfl)<|Ec Z<|fb<|?_
       refine fm rfl ?_ ?_
       ·intro al
        obtain ⟨al, H⟩ := It al H
        refine ft<|fc<|fA<|?_
        refine fz (fun z u t => ∃ (bb : Bool) (aq : SV) (aK : ae0) (ao : List (List Value)), [(0, (Vp c)), (1, (sv x)), (2, (sv y)), (7, (Vi d)), (12, (Vi E)), (92, (.bool bb))] = z ∧ (.blk c 76 [(sv p), (sv o), (sv n), (sv m), (sv l), (sv q), (.bool a), (.bool b), (sv aq)]) :: (.row (sv aq) 9 1 ao.flatten) :: G = t ∧ pR p1 p2 d E i h g f e j a b ai c7 rc bb aK = some (r, s) ∧ RowR Ty.str u ao aK) ?_ ?_
        ·refine fa<|Em Z<|Em Z<|Em Z<|?_
         obtain ⟨dk, cY, H⟩ := bnd H
         refine Ow.shift (Pu1 (Sd ?_))
         refine Ow.shift (Pu1 (Sd ?_))
         have bs := ((aZ.mono w).mono Q).mono R
         have bt := ((a0.mono w).mono Q).mono R
         have bu := ((a1.mono w).mono Q).mono R
         have bv := ((a2.mono w).mono Q).mono R
         have bw := ((a3.mono w).mono Q).mono R
         have bx := ((a4.mono w).mono Q).mono R
         refine ff rfl (Ek Tryz.call49 Z (yh c i p h o g n f m e l j q a b L N M p1 x E dk cY _ _ bs bt bu bv bw bx ax a7) ?_)
         rintro _ dz _ B ⟨rfl, rfl⟩
         refine Em Z ?_
         refine Ee Z ?_ ?_
         ·intro aU
          have H := ift aU H
          refine Vm Z<|Vm Z<|Vm Z<|Vm Z<|?_
          obtain ⟨dl, cZ, H⟩ := bnd H
          refine Ow.shift (Pu1 (Sd ?_))
          refine Ow.shift (Pu1 (Sd ?_))
          have bz := bs.mono B
          have bA := bt.mono B
          have bB := bu.mono B
          have bC := bv.mono B
          have bD := bw.mono B
          have bE := bx.mono B
          have a8 := ax.mono B
          have bF := (((a5.mono w).mono Q).mono R).mono B
          refine ib rfl rfl rfl rfl (Ek Tryz.call54 Z (Dh c i p h o g n f m e l j q a b L N M p2 y d E dl cZ _ _ bz bA bB bC bD bE a8 bF) ?_)
          rintro _ dA _ C ⟨rfl, rfl⟩
          refine Et Z<|Em Z<|?_
          refine Ee Z ?_ ?_
          ·intro aV
           have H := ift aV H
           refine Vm Z<|Vm Z<|Vm Z<|?_
           obtain ⟨b3, c0, H⟩ := bnd H
           have cA := (a7.mono B).mono C
           refine ib rfl rfl rfl rfl (Ek Tryz.call53 Z (xm p1 x d b3 c0 _ _ cA) ?_)
           rintro _ _ _ - ⟨df, dU, rfl, rfl, rfl, cB⟩
           refine Vm Z ?_
           refine Ow.shift (Shift.settle (T := Ty.bool) .here cB rfl (fun dB S cC => Sd ?_))
           obtain ⟨b4, c1, H⟩ := bnd H
           refine ib rfl rfl rfl rfl (Ek Tryz.call53 Z (xm b3 df E b4 c1 _ _ cC) ?_)
           rintro _ _ _ - ⟨dg, dV, rfl, rfl, rfl, cD⟩
           refine Vm Z ?_
           refine Ow.shift (Shift.settle (T := Ty.bool) .here cD rfl (fun dC U cE => Sd ?_))
           obtain ⟨b5, b6, c2, H⟩ := ir H
           refine Ow.shift (Pu3 (Sd ?_))
           refine Ow.shift (Pu3 (Sd ?_))
           have cF := ((bz.mono C).mono S).mono U
           have cG := ((bA.mono C).mono S).mono U
           have cH := ((bB.mono C).mono S).mono U
           have cI := ((bC.mono C).mono S).mono U
           have cJ := ((bD.mono C).mono S).mono U
           have cK := ((bE.mono C).mono S).mono U
           have cL := ((a8.mono C).mono S).mono U
           have cM := ((bF.mono C).mono S).mono U
           refine ib rfl rfl rfl rfl (Ek Tryz.call26 Z (ih c i p h o g n f m e l j q a b L N M b4 dg p2 y b5 b6 c2 _ _ cF cG cH cI cJ cK cL cE cM) ?_)
           rintro _ dD _ dM ⟨dh, c9, rfl, rfl, cN⟩
           exact Et Z<|fb<|Pu1<|Pu1<|Re2<|Re2<|Sd<|⟨_, by exact R6, b5, dh, b6, c9, rfl, rfl, H, cN⟩
          ·intro aV
           have H := fX (btf aV) H
           refine Ez Z<|Ez Z<|Ez Z<|Ez Z<|Ez Z<|Ez Z<|Ez Z<|Ez Z<|Ef Z<|fb<|Pu1<|Pu1<|?_
           have cO := a8.mono C
           exact Sd ⟨_, by exact R6, false, N, L, M, rfl, rfl, H, cO⟩
         ·intro aU
          have H := fX (btf aU) H
          refine Ez Z<|Ez Z<|Ez Z<|Ez Z<|Ez Z<|Ef Z<|Em Z<|Ez Z<|Ez Z<|Ez Z<|Ez Z<|Ez Z<|Ez Z<|Ez Z<|Ez Z<|Ef Z<|fb<|Pu1<|Pu1<|?_
          have cP := ax.mono B
          exact Sd ⟨_, by exact R6, false, N, L, M, rfl, rfl, H, cP⟩
        rintro _ dE _ dN ⟨bb, aq, aK, ao, rfl, rfl, H, be⟩
        unfold pR at H
        refine fm rfl ?_ ?_
        ·intro aW
         have H := ift aW H
         refine fc<|fa<|Ea Z<|fb<|fx<|?_
         obtain ⟨ar, au⟩ := hY H
         subst r s
         refine ⟨(.inl rfl), [(.bool true)], ⟨(.bool true), _, rfl, rfl, rfl⟩, ?_⟩
         exact Pu1<|Pu1<|Sd<|⟨aq, ao, rfl, rfl, be⟩
        ·intro aW
         have H := fX (btf aW) H
         exact ft<|fa<|Em Z<|Er (wI (E + 1)) Z<|Ea Z<|fb<|Pu1<|Pu1<|Sd<|⟨_, by exact R5, _, Nat.lt_succ_self _, (wI (E + 1)), aq, aK, ao, rfl, rfl, (cf ▸ H), be⟩
       ·intro al
        obtain ⟨al, H⟩ := If al H
        exact f9<|Pu1<|Pu1<|Sd<|⟨_, by exact R4, N, L, M, rfl, rfl, H, ax⟩
     rintro _ dF _ dO ⟨aP, aH, aM, rfl, rfl, H, ca⟩
     unfold o8 at H
     exact fa<|Em Z<|Er (wI (d + 1)) Z<|Ea Z<|fb<|Pu1<|Pu1<|Sd<|⟨_, by exact R4, _, Nat.lt_succ_self _, (wI (d + 1)), aP, aH, aM, rfl, rfl, (cd ▸ H), ca⟩
    ·intro aj
     obtain ⟨aj, H⟩ := If aj H
     exact f9<|Pu1<|Pu1<|Sd<|⟨[], trivial, Y, W, X, rfl, rfl, H, av⟩
   rintro _ dG _ dP ⟨aO, a9, aL, rfl, rfl, H, b9⟩
   unfold wA at H
   refine fc<|fa<|Ea Z<|fb<|fx<|?_
   obtain ⟨ar, au⟩ := hY H
   subst r s
   refine ⟨(.inl rfl), [(.bool false)], ⟨(.bool false), _, rfl, rfl, rfl⟩, ?_⟩
   exact Pu1<|Pu1<|Sd<|⟨aO, aL, rfl, rfl, b9⟩
theorem CB (p0 : fM) (h : SV) (i : SV) (p1 : ae3) (X : SV) (p2 : ad4) (Y : SV) (B : Bool) (H : qH p0 p1 p2 = some B) (K : Kp) (G : List Ent) (E : Slr Ty.i64 K (sv h) p0.capacities) (F : Slr Ty.u64 K (sv i) p0.starts) (an : Slr (Ty.sl gC) K (sv X) p1) (ao : Slr f4 K (sv Y) p2) :
  Fc Tryz.prog 11 #[(.agg (fp p0 h i).toArray), (sv X), (sv Y)] K (G) (fun v K' C => v = (.bool B) ∧ G = C) := by
 refine fN Tryz.func11 rfl Tryz.ntmps11 Tryz.results11 rfl ?_
 unfold qH at H
 refine fc<|fa<|?_
 refine ff rfl (fR (cs := (fp p0 h i)) rfl rfl rfl (fun bn => ?_))
 refine Ea Z<|fb<|fc<|fa<|Em Z<|Em Z<|?_
 obtain ⟨s, t, u, w, x, y, z, A, a5, H⟩ := bnd8 H
 refine ff rfl (Ek Tryz.call25 Z (C5 p1 X p2 Y false false s t u w x y z A a5 _ _ an ao) ?_)
 rintro _ bc _ j ⟨D, R, S, q, U, V, W, rfl, rfl, I, J, o, L, M, N⟩
 refine Ea Z<|fb<|?_
 refine fz (fun ag K' C => ∃ (p : Bool), [(6, (.bool p))] = ag ∧ G = C ∧ wH p = some B) ?_ ?_
 ·obtain ⟨aa, O, H⟩ := bnd H
  obtain ⟨m, P, H⟩ := bnd H
  obtain ⟨n, ab, Q, H⟩ := ir H
  refine fq _ rfl (Ic Mb1 (Ic Mb2 (Ic Mb3 (Ic Mb4 (Ic Mb5 In0)))))<|Jm 0 Z<|Jm 1 Z<|Jq 2 Z (fD rfl)<|JF 3 2 Z<|JL 7 3 (fp p0 h i) Z (Rb4 Z)<|?_
  refine gY 4 8 (by kernel_rfl) ?_ ?_
  ·refine id (Jyq Z (gv (v := (sv q)) rfl rfl rfl (Rb0 Z)) ⟨(Ic Mb1 (Ic Mb2 (Ic Mb3 (Ic Mb4 (Ic Mb5 In0))))), ?_⟩)
   refine Jq 5 Z (gg (T := gr) o rfl rfl) ?_
   refine gY 6 8 (by kernel_rfl) ?_ ?_
   ·refine id (Jy Z ?_)
    refine jx (T := Ty.bool) (r := [(.bool false)]) rfl rfl rfl O rfl rfl rfl rfl rfl rfl rfl rfl rfl rfl (fun a6 bA ah bw => ⟨(Ic Mb2 (Ic Mb3 (Ic Mb4 (Ic Mb5 (Ic Mb6 In0))))), ?_⟩)
    refine Ao 8 Z ?_
    have ap := E.mono j
    have aq := F.mono j
    refine Ek Tryz.call27 Z (pm p0 h i m P _ _ ap aq) ?_
    rintro _ bd _ a ⟨a7, bB, rfl, rfl, ar⟩
    refine ⟨(Ic Mb4 (Ic Mb5 (Ic Mb6 (Ic Mb7 (Ic Mb8 In0))))), ?_⟩
    refine Ao 9 Z ?_
    have av := ah.mono a
    refine OpW.shift (Shift.settle (T := Ty.bool) (.there (.there .here)) av rfl (fun be b au => Sd ?_))
    have ax := ar.mono b
    refine OpW.shift (Shift.settle (T := fF) .here ax rfl (fun ad c aw => Sd ?_))
    have ai : RowR Ty.str ad [] [] := RowR.nil
    refine OpW.shift (Shift.nilRow 9 1 (Sd ?_))
    refine OpW.shift (Pu4 (Sd ?_))
    have ay := ((I.mono a).mono b).mono c
    have az := ((J.mono a).mono b).mono c
    have aA := ((o.mono a).mono b).mono c
    have aB := ((L.mono a).mono b).mono c
    have aC := ((M.mono a).mono b).mono c
    have aD := ((N.mono a).mono b).mono c
    have aE := au.mono c
    refine Ek Tryz.call26 Z (xg 100 D s R t S u q w U x V y W z A ([] : ae0) fB ([] : List (List Value)) aa a6 m a7 n ab Q _ _ ay az aA aB aC aD ai aE aw) ?_
    rintro _ bf _ bp ⟨bJ, bC, rfl, rfl, bt⟩
    refine ⟨(Ic Mb5 (Ic Mb6 (Ic Mb7 (Ic Mb8 (Ic Mb9 In0))))), ?_⟩
    exact Ja 10 Z<|Ad<|Re0<|Re0<|Re0<|Re0<|Re0<|Re0<|Re0<|Re0<|Re0<|Re0<|Sd<|⟨_, by exact R1, n, rfl, rfl, H⟩
   ·refine id (Jy Z ?_)
    have aF := E.mono j
    have aG := F.mono j
    refine Ek Tryz.call27 Z (pm p0 h i m P _ _ aF aG) ?_
    rintro _ bg _ k ⟨a8, bD, rfl, rfl, aH⟩
    refine ⟨(Ic Mb3 (Ic Mb4 (Ic Mb5 (Ic Mb6 (Ic Mb7 In0))))), ?_⟩
    refine Ao 6 Z ?_
    refine jx (T := Ty.bool) (r := [(.bool false)]) rfl rfl rfl O rfl rfl rfl rfl rfl rfl rfl rfl rfl rfl (fun a9 bE aj bx => ⟨(Ic Mb4 (Ic Mb5 (Ic Mb6 (Ic Mb7 (Ic Mb8 In0))))), ?_⟩)
    refine Ao 9 Z ?_
    refine OpW.shift (Shift.settle (T := Ty.bool) .here aj rfl (fun bh d aI => Sd ?_))
    have aK := aH.mono d
    refine OpW.shift (Shift.settle (T := fF) (.there .here) aK rfl (fun ae e aJ => Sd ?_))
    have ak : RowR Ty.str ae [] [] := RowR.nil
    refine OpW.shift (Shift.nilRow 9 1 (Sd ?_))
    refine OpW.shift (Pu4 (Sd ?_))
    have aL := ((I.mono k).mono d).mono e
    have aM := ((J.mono k).mono d).mono e
    have aN := ((o.mono k).mono d).mono e
    have aO := ((L.mono k).mono d).mono e
    have aP := ((M.mono k).mono d).mono e
    have aQ := ((N.mono k).mono d).mono e
    have aR := aI.mono e
    refine Ek Tryz.call26 Z (xg 100 D s R t S u q w U x V y W z A ([] : ae0) fB ([] : List (List Value)) aa a9 m a8 n ab Q _ _ aL aM aN aO aP aQ ak aR aJ) ?_
    rintro _ bi _ bq ⟨bK, bF, rfl, rfl, bu⟩
    refine ⟨(Ic Mb5 (Ic Mb6 (Ic Mb7 (Ic Mb8 (Ic Mb9 In0))))), ?_⟩
    exact Ja 10 Z<|Ad<|Re0<|Re0<|Re0<|Re0<|Re0<|Re0<|Re0<|Re0<|Re0<|Re0<|Sd<|⟨_, by exact R1, n, rfl, rfl, H⟩
  ·refine id (Jy Z ?_)
   have aS := E.mono j
   have aT := F.mono j
   refine Ek Tryz.call27 Z (pm p0 h i m P _ _ aS aT) ?_
   rintro _ bj _ l ⟨ba, bG, rfl, rfl, aU⟩
   refine ⟨(Ic Mb3 (Ic Mb4 (Ic Mb5 (Ic Mb6 (Ic Mb7 In0))))), ?_⟩
   refine gB 4 (by kernel_rfl) (Jyq Z (gv (v := (sv q)) rfl rfl rfl (Rb2 Z)) ⟨(Ic Mb3 (Ic Mb4 (Ic Mb5 (Ic Mb6 (Ic Mb7 In0))))), ?_⟩)
   refine Jq 5 Z (gg (T := gr) o rfl rfl) ?_
   refine Ao 6 Z ?_
   refine jx (T := Ty.bool) (r := [(.bool false)]) rfl rfl rfl O rfl rfl rfl rfl rfl rfl rfl rfl rfl rfl (fun bb bH al bz => ⟨(Ic Mb4 (Ic Mb5 (Ic Mb6 (Ic Mb7 (Ic Mb8 In0))))), ?_⟩)
   refine Ao 9 Z ?_
   refine OpW.shift (Shift.settle (T := Ty.bool) .here al rfl (fun bk f aV => Sd ?_))
   have aX := aU.mono f
   refine OpW.shift (Shift.settle (T := fF) (.there .here) aX rfl (fun af g aW => Sd ?_))
   have am : RowR Ty.str af [] [] := RowR.nil
   refine OpW.shift (Shift.nilRow 9 1 (Sd ?_))
   refine OpW.shift (Pu4 (Sd ?_))
   have aY := ((I.mono l).mono f).mono g
   have aZ := ((J.mono l).mono f).mono g
   have a0 := ((o.mono l).mono f).mono g
   have a1 := ((L.mono l).mono f).mono g
   have a2 := ((M.mono l).mono f).mono g
   have a3 := ((N.mono l).mono f).mono g
   have a4 := aV.mono g
   refine Ek Tryz.call26 Z (xg 100 D s R t S u q w U x V y W z A ([] : ae0) fB ([] : List (List Value)) aa bb m ba n ab Q _ _ aY aZ a0 a1 a2 a3 am a4 aW) ?_
   rintro _ bl _ br ⟨bL, bI, rfl, rfl, bv⟩
   refine ⟨(Ic Mb5 (Ic Mb6 (Ic Mb7 (Ic Mb8 (Ic Mb9 In0))))), ?_⟩
   exact Ja 10 Z<|Ad<|Re0<|Re0<|Re0<|Re0<|Re0<|Re0<|Re0<|Re0<|Re0<|Re0<|Sd<|⟨_, by exact R1, n, rfl, rfl, H⟩
 rintro _ bm _ bs ⟨p, rfl, rfl, H⟩
 unfold wH at H
 refine fx ?_
 obtain bo := gn H
 subst B
 refine ⟨(.inl rfl), [(.bool p)], ⟨(.bool p), _, rfl, rfl, rfl⟩, ?_⟩
 exact Sd ⟨rfl, rfl⟩
end Go.Hx
namespace Go.Hx
open Go Go.Proofs
set_option maxRecDepth 10000
set_option maxHeartbeats 1000000
theorem Dt (p0 : ad1) (M : SV) (p1 : Int) (p2 : Int) (p3 : Int) (h : Bool) (H : wY p0 p1 p2 p3 = some h) (K : Kp) (G : List Ent) (ak : Slr Ty.u8 K (sv M) p0) (hT : mO K) :
  Fc Tryz.prog 5 #[(sv M), (Vi p1), (.int .u8 p2), (.int .u8 p3)] K (G) (fun v y i => v = (.bool h) ∧ G = i) := by
 refine fN Tryz.func5 rfl Tryz.ntmps5 Tryz.results5 rfl ?_
 unfold wY at H
 refine fc<|fa<|Ea Z<|fb<|fc<|fc<|fa<|?_
 obtain ⟨aO, aG, H⟩ := bnd H
 refine ff rfl (Ek Tryz.call7 Z (Dq  aO aG _ _ hT) ?_)
 rintro _ aR _ P ⟨rfl, rfl⟩
 refine Eq Z (gi rfl)<|fb<|?_
 refine fm rfl ?_ ?_
 ·intro j
  have j := ix j
  have H := fX (btf j) H
  refine fc<|fa<|Ea Z<|fb<|fx<|?_
  obtain O := gn H
  subst h
  refine ⟨(.inl rfl), [(.bool false)], ⟨(.bool false), _, rfl, rfl, rfl⟩, ?_⟩
  exact Sd ⟨rfl, rfl⟩
 ·intro j
  have j := iw j
  have H := ift j H
  refine ft<|fc<|fa<|Em Z<|?_
  obtain ⟨a, n, g, aH, H⟩ := k7 H
  have am := ak.mono P
  refine ff rfl (Ek Tryz.call8 Z (Cm p0 M 7 a n g aH _ _ am) ?_)
  rintro _ aS _ ah ⟨b, c, f, a6, q, rfl, rfl, an, ao, ap, R⟩
  refine Em Z<|Ex Z<|Ex Z<|Ex Z<|?_
  refine ff rfl (fC (cs := (fp (fM.mk [] [] 0) fB fB)) rfl rfl rfl rfl (fun z => ?_))
  refine ff rfl (Sa (fp a b c) Z .here Z ?_)
  refine Ea Z<|Ea Z<|fb<|?_
  refine fz (fun r y i => [] = r ∧ G = i ∧ wW = some h) ?_ ?_
  ·refine fc<|fa<|Em Z<|Em Z<|Em Z<|Em Z<|Em Z<|?_
   obtain ⟨o, aI, H⟩ := bnd H
   refine ff rfl (Ek Tryz.call10 Z (C4 g q p1 p2 p3 o aI _ _ R) ?_)
   rintro _ _ _ - ⟨x, a7, rfl, rfl, rfl, aq⟩
   refine Ow.shift (Shift.settle (T := f4) .here aq rfl (fun ag u ar => Sd ?_))
   have au := R.mono u
   have F : RowR (Ty.sl f4) ag [[(sv q)], [(sv x)]] [g, o] := RowR.cons ⟨q, rfl, au⟩ (RowR.cons ⟨x, rfl, ar⟩ (RowR.nil))
   refine ff rfl (gk (T := (Ty.sl f4)) (rows := [[(sv q)], [(sv x)]]) (l := [g, o]) rfl rfl rfl F rfl rfl rfl rfl rfl rfl rfl rfl (fun C => ?_))
   refine Eq Z (ln (T := (Ty.sl f4)) Mb0 F rfl rfl rfl)<|Em Z<|fb<|fA<|?_
   refine f7 (fun ad r y i => ∃ (m : Int), [(9, (Vp z)), (10, (sv f)), (30, (sv C)), (31, (Vi ([g, o].length : Int))), (32, (Vi m))] = r ∧ (.blk z 27 (fp a b c)) :: (.tok 52 1 [(sv f)]) :: (.row (sv C) 29 1 [[(sv q)], [(sv x)]].flatten) :: (.tok 3 1 [(sv b)]) :: (.tok 36 1 [(sv c)]) :: G = i ∧ lp1 (wX n g o a) ad m = some h ∧ Slr (Ty.sl gC) y (sv f) n) BIG ?_ ?_
   ·have aw := ap.mono u
    refine Shift.settle (T := (Ty.sl gC)) (.there (.there (.there (.there (.there .here))))) aw rfl ?_
    intro aT a1 av
    exact Pu4<|Pu4<|Pu2<|Pu5<|Pu5<|Re5<|Re5<|Sd<|⟨_, by exact R5, 0, rfl, rfl, H, av⟩
   rintro ad _ aU _ A ⟨m, rfl, rfl, H, I⟩
   obtain ⟨a4, aM, rfl, aj, H⟩ := lx H
   unfold wX at H
   refine fc<|fa<|Ec Z<|fb<|fc<|?_
   refine fm rfl ?_ ?_
   ·intro s
    obtain ⟨s, H⟩ := It s H
    refine ft<|fc<|fA<|fc<|fa<|?_
    obtain ⟨N, ac, H⟩ := bnd H
    have J := F.mono A
    obtain ⟨a5, Q, al⟩ := RowR.at J ac
    obtain ⟨D, rfl, S⟩ := al
    refine Eq Z (gz (T := (Ty.sl f4)) Mb2 J Q (fL ac).1 rfl rfl rfl rfl rfl)<|El (sv D) Z (gQ (T := (Ty.sl f4)) Mb2 J Q rfl rfl)<|Ea Z<|fb<|fc<|fa<|EL 3 (fp a b c) Z (Rb0 Z)<|Em Z<|Em Z<|?_
    obtain ⟨ae, aP, aJ, H⟩ := ir H
    have U := (an.mono u).mono A
    have V := (ao.mono u).mono A
    have ax := (((hT.mono P).mono ah).mono u).mono A
    refine ff rfl (Ek Tryz.call14 Z (xj a b c n f N D ae aP aJ _ _ U V I S ax) ?_)
    rintro _ aV _ w ⟨aN, a8, rfl, rfl, W⟩
    refine Em Z<|Ex Z<|Ex Z<|Ea Z<|Ea Z<|fb<|?_
    refine fz (fun r y i => ∃ (L : Bool), [(9, (Vp z)), (10, (sv f)), (30, (sv C)), (31, (Vi ([g, o].length : Int))), (32, (Vi m)), (68, (.bool L))] = r ∧ (.blk z 27 (fp a b c)) :: (.tok 52 1 [(sv f)]) :: (.row (sv C) 29 1 [[(sv q)], [(sv x)]].flatten) :: (.tok 3 1 [(sv b)]) :: (.tok 36 1 [(sv c)]) :: G = i ∧ pV n g o m a aM L = some h) ?_ ?_
    ·refine fa<|Em Z<|EL 3 (fp a b c) Z (Rb1 Z)<|Em Z<|Em Z<|?_
     obtain ⟨aQ, aK, H⟩ := bnd H
     have X := U.mono w
     have Y := V.mono w
     have aa := I.mono w
     have ab := S.mono w
     refine ff rfl (Ek Tryz.call11 Z (CB a b c n f N D aQ aK _ _ X Y aa ab) ?_)
     rintro _ aW _ p ⟨rfl, rfl⟩
     refine Eq Z (FC rfl rfl rfl)<|Em Z<|?_
     refine Ee Z ?_ ?_
     ·intro k
      have k := ix k
      have H := fX (btf k) H
      refine Ez Z<|Ez Z<|Ez Z<|f0 rfl rfl rfl rfl rfl<|f0 rfl rfl rfl rfl rfl<|f0 rfl rfl rfl rfl rfl<|Ez Z<|Et Z<|Em Z<|Ez Z<|Ez Z<|f0 rfl rfl rfl rfl rfl<|f0 rfl rfl rfl rfl rfl<|f0 rfl rfl rfl rfl rfl<|f0 rfl rfl rfl rfl rfl<|f0 rfl rfl rfl rfl rfl<|f0 rfl rfl rfl rfl rfl<|Ez Z<|Et Z<|fb<|Pu5<|Pu5<|?_
      exact Pu5<|Pu5<|Pu5<|Re5<|Sd<|⟨_, by exact R6, true, rfl, rfl, H⟩
     ·intro k
      have k := iw k
      have H := ift k H
      refine Vm Z<|Vq Z (gi rfl)<|Vm Z<|?_
      refine Ee Z ?_ ?_
      ·intro e
       have e := ix e
       have H := fX (btf e) H
       refine Vm Z ?_
       have ay := W.mono p
       refine Vq Z (ln (T := fP) Mb0 ay rfl rfl rfl)<|Vc Z<|Vt Z<|Ef Z<|Em Z<|?_
       refine Ee Z ?_ ?_
       ·intro t
        obtain ⟨t, H⟩ := It t H
        exact Ez Z<|Ez Z<|f0 rfl rfl rfl rfl rfl<|f0 rfl rfl rfl rfl rfl<|f0 rfl rfl rfl rfl rfl<|f0 rfl rfl rfl rfl rfl<|f0 rfl rfl rfl rfl rfl<|f0 rfl rfl rfl rfl rfl<|Ez Z<|Et Z<|fb<|Pu5<|Pu5<|Pu5<|Pu5<|Pu5<|Re5<|Sd<|⟨_, by exact R6, true, rfl, rfl, H⟩
       ·intro t
        obtain ⟨t, H⟩ := If t H
        exact Vm Z<|Vm Z<|Ow.known (d := 60) rfl (e)<|Ez Z<|Ez Z<|Ez Z<|Ez Z<|Ez Z<|Ez Z<|Vf Z<|Ef Z<|fb<|Pu5<|Pu5<|Pu5<|Pu5<|Pu5<|Re5<|Sd<|⟨_, by exact R6, false, rfl, rfl, H⟩
      ·intro e
       have e := iw e
       have H := ift e H
       refine Ez Z<|Ez Z<|Ez Z<|Vf Z<|Ef Z<|Em Z<|Vm Z<|Vm Z<|Ow.known (d := 60) rfl (e)<|VL 3 (fp a b c) Z (Rb1 Z)<|Vm Z<|Vm Z<|Vm Z<|?_
       have aA := W.mono p
       refine Ow.shift (Shift.settle (T := fP) .here aA rfl (fun aX B az => Sd ?_))
       obtain ⟨af, aL, H⟩ := bnd H
       have aB := (X.mono p).mono B
       have aC := (Y.mono p).mono B
       have aD := (aa.mono p).mono B
       have aE := (ab.mono p).mono B
       refine ib rfl rfl rfl rfl (Ek Tryz.call15 Z (Dl a b c n f N D ae aN af aL _ _ aB aC aD aE az) ?_)
       rintro _ aY _ a2 ⟨rfl, rfl⟩
       exact Vq Z (gi rfl)<|Vt Z<|Ef Z<|fb<|Pu5<|Pu5<|Pu5<|Pu5<|Pu5<|Re5<|Sd<|⟨_, by exact R6, (!(af)), rfl, rfl, H⟩
    rintro _ aZ _ ai ⟨L, rfl, rfl, H⟩
    unfold pV at H
    refine fm rfl ?_ ?_
    ·intro E
     have H := ift E H
     refine fc<|fa<|Ea Z<|fb<|fx<|?_
     obtain O := gn H
     subst h
     refine ⟨(.inl rfl), [(.bool false)], ⟨(.bool false), _, rfl, rfl, rfl⟩, ?_⟩
     exact Re0<|Re0<|Re0<|Re0<|Re0<|Sd<|⟨rfl, rfl⟩
    ·intro E
     have H := fX (btf E) H
     refine ft<|fa<|Er (wI (m + 1)) Z<|Em Z<|fb<|Pu4<|Pu4<|Pu4<|Pu4<|Pu4<|?_
     have aF := (I.mono w).mono ai
     exact Sd ⟨_, by exact R5, _, Nat.lt_succ_self _, (wI (m + 1)), rfl, rfl, (aj ▸ H), aF⟩
   ·intro s
    obtain ⟨s, H⟩ := If s H
    exact f9<|Re0<|Re0<|Re0<|Re0<|Re0<|Sd<|⟨[], trivial, rfl, rfl, H⟩
  rintro _ a0 _ a3 ⟨rfl, rfl, H⟩
  unfold wW at H
  refine fc<|fa<|Ea Z<|fb<|fx<|?_
  obtain O := gn H
  subst h
  refine ⟨(.inl rfl), [(.bool true)], ⟨(.bool true), _, rfl, rfl, rfl⟩, ?_⟩
  exact Sd ⟨rfl, rfl⟩
end Go.Hx
