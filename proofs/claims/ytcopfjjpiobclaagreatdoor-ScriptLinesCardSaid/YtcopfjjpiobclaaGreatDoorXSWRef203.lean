
import Derived.Test.YtcopfjjpiobclaaGreatDoorXSM
import Derived.Test.YtcopfjjpiobclaaGreatDoorXSWRef20
namespace Go.Hx
open Go Go.Proofs
set_option linter.unusedSimpArgs false
set_option linter.unusedVariables false
set_option maxRecDepth 10000
set_option maxHeartbeats 1000000
theorem Tc (p0 : FQ) (j : SV) (u : List (List Value)) (i : SV) (r : List (List Value)) (c : SV) (e : List Value) (h : SV) (p : List (List Value)) (p1 : ByteArray) (p2 : Bool) (y0 : FQ) (y1 : Bool) (H : O1 p0 p1 p2 = some (y0, y1)) (K : Kp) (G : List Ent) (s : RowR Ty.i64 K u p0.cnfg.capacities) (t : RowR Ty.u64 K r p0.cnfg.starts) (lA : RowR (Ty.sl FU) K (e.map one) p0.ops) (w : RowR Ty.i64 K p p0.picks) :
  Fc Tryz.prog 28 #[(.agg (FG p0 j i c h).toArray), (.string p1), (.bool p2)] K ((.row (sv j) 3 1 u.flatten) :: (.row (sv i) 53 1 r.flatten) :: (.row (sv c) 51 1 (e.map one).flatten) :: (.tok 70 7 e) :: (.row (sv h) 3 1 p.flatten) :: G) (fun v Q G' => ∃ (lf : SV) (kZ : List (List Value)) (lg : SV) (k0 : List (List Value)) (lh : SV) (ia : List Value) (li : SV) (k1 : List (List Value)), v = (.tuple #[(.agg (FG y0 lf lg lh li).toArray), (.bool y1)]) ∧ (.row (sv lf) 3 1 kZ.flatten) :: (.row (sv lg) 53 1 k0.flatten) :: (.row (sv lh) 51 1 (ia.map one).flatten) :: (.tok 70 7 ia) :: (.row (sv li) 3 1 k1.flatten) :: G = G' ∧ RowR Ty.i64 Q kZ y0.cnfg.capacities ∧ RowR Ty.u64 Q k0 y0.cnfg.starts ∧ RowR (Ty.sl FU) Q (ia.map one) y0.ops ∧ RowR Ty.i64 Q k1 y0.picks) := by
 refine Gx Tryz.func28 Z Tryz.ntmps28 Tryz.results28 Z ?_
 unfold O1 at H
 refine FK<|FD<|?_
 refine FT Z (GX (cs := (FG p0 j i c h)) Z Z Z (fun a6 => ?_))
 refine FT Z (GE (cs := (FG (FQ.mk (FW.mk [] [] 0) [] []) FZ FZ FZ FZ)) Z Z Z Z (fun a7 => ?_))
 refine Ea Z<|FH<|FK<|FD<|Em Z<|?_
 obtain ⟨F, ux, H⟩ := bnd H
 refine FT Z (Ek Tryz.call56 Z (UL p1 F ux _ _ ) ?_)
 rintro _ ih _ a ⟨I, rfl, rfl, O⟩
 refine Eq Z (GH (cs := (F5 (FO.mk F 0 false) I)) Z Z Z Z Z Z) ?_
 refine FT Z (GX (cs := (F5 (FO.mk F 0 false) I)) Z Z Z (fun E => ?_))
 refine Ea Z<|FH<|FK<|FD<|EF 3 Z<|El (sv c) Z (Rb3 Z)<|?_
 have y := lA.mono a
 refine Eq Z (Ik (T := (Ty.sl FU)) Mb6 y Z Z Z)<|Ea Z<|FH<|?_
 refine Gk (fun cG Q G' => ∃ (g2 : SV) (bg : ad7) (bf : Int) (bi : Bool) (aa : SV) (am : ad8) (d6 : List (List Value)) (ab : SV) (an : ad8) (d7 : List (List Value)) (au : Int) (ac : SV) (ao : ae8) (cB : List Value) (ad : SV) (ap : ad8) (d8 : List (List Value)), [(3, (Vp a6)), (6, (Vp a7)), (8, (Vp E))] = cG ∧ (.blk E 97 (F5 (FO.mk bg bf bi) g2)) :: (.blk a7 33 (FG (FQ.mk (FW.mk [] [] 0) [] []) FZ FZ FZ FZ)) :: (.blk a6 33 (FG (FQ.mk (FW.mk am an au) ao ap) aa ab ac ad)) :: (.row (sv aa) 3 1 d6.flatten) :: (.row (sv ab) 53 1 d7.flatten) :: (.row (sv ac) 51 1 (cB.map one).flatten) :: (.tok 70 7 cB) :: (.row (sv ad) 3 1 d8.flatten) :: G = G' ∧ LA bg bf bi am an au ao ap = some (y0, y1) ∧ Slr Ty.str Q (sv g2) bg ∧ RowR Ty.i64 Q d6 am ∧ RowR Ty.u64 Q d7 an ∧ RowR (Ty.sl FU) Q (cB.map one) ao ∧ RowR Ty.i64 Q d8 ap) ?_ ?_
 ·refine Gh<|FK<|FD<|Em Z<|Ea Z<|FH<|?_
  refine F2 Z ?_ ?_
  ·intro g7
   have H := ift g7 H
   refine FK<|FD<|EL 5 (FG p0 j i c h) Z (Rb3 Z)<|?_
   refine FT Z (Sa (FG p0 j i c h) Z (.there (.there .here)) Z ?_)
   refine Ea Z<|FH<|Gg<|?_
   obtain ⟨cH, cI⟩ := K8 H
   subst y0 y1
   refine ⟨(.inl Z), [(.agg (FG p0 j i c h).toArray), (.bool false)], ⟨(.agg (FG p0 j i c h).toArray), _, Z, ⟨_, 5, (FG p0 j i c h), Z, Z, Z, Z, ⟨Z, Rb2 Z⟩, Z⟩, ⟨(.bool false), _, Z, Z, Z⟩⟩, ?_⟩
   refine Pu8<|Pu8<|Pu8<|Pu8<|Pu8<|Re5<|Re5<|Re5<|Re5<|?_
   have nc := s.mono a
   have nd := t.mono a
   have nf := w.mono a
   exact Sd ⟨j, u, i, r, c, e, h, p, Z, Z, nc, nd, y, nf⟩
  ·intro g7
   have H := Gu (btf g7) H
   refine FK<|FD<|Em Z<|?_
   obtain ⟨u5, g4, uy, H⟩ := Ig H
   refine FT Z (Ek Tryz.call57 Z (HN E (FO.mk F 0 false) I (⟨#[99, 104, 97, 110, 110, 101, 108]⟩ : ByteArray) u5 g4 uy _ _ O) ?_)
   rintro _ _ _ - ⟨rfl, rfl, rfl⟩
   refine Ea Z<|FH<|?_
   refine F2 Z ?_ ?_
   ·intro g8
    have H := ift g8 H
    refine FK<|FK<|FD<|Em Z<|Ec Z<|FH<|?_
    refine F2 Z ?_ ?_
    ·intro cJ
     obtain ⟨cJ, H⟩ := It cJ H
     refine FK<|FD<|EL 5 (FG p0 j i c h) Z (Rb3 Z)<|?_
     refine FT Z (Sa (FG p0 j i c h) Z (.there (.there .here)) Z ?_)
     refine Ea Z<|FH<|Gg<|?_
     obtain ⟨cH, cI⟩ := K8 H
     subst y0 y1
     refine ⟨(.inl Z), [(.agg (FG p0 j i c h).toArray), (.bool false)], ⟨(.agg (FG p0 j i c h).toArray), _, Z, ⟨_, 5, (FG p0 j i c h), Z, Z, Z, Z, ⟨Z, Rb2 Z⟩, Z⟩, ⟨(.bool false), _, Z, Z, Z⟩⟩, ?_⟩
     refine Pu8<|Pu8<|Pu8<|Pu8<|Pu8<|Re5<|Re5<|Re5<|Re5<|?_
     have ng := s.mono a
     have nh := t.mono a
     have ni := w.mono a
     exact Sd ⟨j, u, i, r, c, e, h, p, Z, Z, ng, nh, y, ni⟩
    ·intro cJ
     obtain ⟨cJ, H⟩ := If cJ H
     refine F8 ?_
     refine Gk (fun cG Q G' => ∃ (aX : SV) (aL : ad7) (d5 : Int) (d9 : Bool) (aM : SV) (aF : ad8) (bh : List (List Value)), [(3, (Vp a6)), (6, (Vp a7)), (8, (Vp E))] = cG ∧ (.blk E 97 (F5 (FO.mk aL d5 d9) aX)) :: (.blk a7 33 (FG (FQ.mk (FW.mk [] [] 0) [] []) FZ FZ FZ FZ)) :: (.blk a6 33 (FG (FQ.mk (FW.mk aF p0.cnfg.starts p0.cnfg.threads) p0.ops p0.picks) aM i c h)) :: (.row (sv aM) 3 1 bh.flatten) :: (.row (sv i) 53 1 r.flatten) :: (.row (sv c) 51 1 (e.map one).flatten) :: (.tok 70 7 e) :: (.row (sv h) 3 1 p.flatten) :: G = G' ∧ P2 p0 aL d5 d9 aF = some (y0, y1) ∧ Slr Ty.str Q (sv aX) aL ∧ RowR Ty.i64 Q bh aF) ?_ ?_
     ·obtain ⟨aq, ed, ee, ef, kX, H⟩ := IN H
      obtain ⟨cC, hN, H⟩ := bnd H
      refine Gm _ Z (Ic Mb1 (Ic Mb2 (Ic Mb5 (Ic Mb6 (Ic Mb7 (Ic Mb8 In0))))))<|JF 0 0 Z<|JF 1 0 Z<|Jm 3 Z<|?_
      refine Gf 2 4 (by kernel_rfl) ?_ ?_
      ·refine id (Jyq Z (FI (v := (sv j)) Z Z Z (Rb3 Z)) ⟨(Ic Mb1 (Ic Mb2 (Ic Mb5 (Ic Mb6 (Ic Mb7 (Ic Mb8 In0)))))), ?_⟩)
       refine Ao 4 Z ?_
       refine Ek Tryz.call58 Z (HU E (FO.mk F g4 false) I aq ed ee ef kX _ _ O) ?_
       rintro _ ln _ lt ⟨uN, rfl, rfl, nj⟩
       refine ⟨(Ic Mb1 (Ic Mb2 (Ic Mb5 (Ic Mb6 (Ic Mb7 (Ic Mb8 In0)))))), ?_⟩
       refine Ao 5 Z ?_
       have iv : RowR Ty.i64 ln [[(Vi aq)]] [aq] := RowR.cons Z (RowR.nil)
       refine Gl (T := Ty.i64) (rows := [[(Vi aq)]]) (l := [aq]) Z Z Z iv Z Z Z Z Z Z Z Z (fun Bt => ⟨(Ic Mb2 (Ic Mb3 (Ic Mb6 (Ic Mb7 (Ic Mb8 (Ic Mb9 In0)))))), ?_⟩)
       refine Ao 6 Z ?_
       have nk := (s.mono a).mono lt
       refine Gi (T := Ty.i64) (bytes := 8) Z Z Z Mb5 nk (SrcT.row Mb0 iv Z) hN Z Z Z Z Z Z Z Z (fun hQ uF lu => ⟨_, (.there (.there (.there (.there (.there .here))))), ⟨(Ic Mb2 (Ic Mb3 (Ic Mb6 (Ic Mb7 (Ic Mb8 (Ic Mb9 In0)))))), ?_⟩⟩)
       refine Aw.shift (Re0 (Sd ⟨(Ic Mb1 (Ic Mb2 (Ic Mb5 (Ic Mb6 (Ic Mb7 (Ic Mb8 In0)))))), ?_⟩))
       refine JF 7 0 Z<|JF 8 0 Z<|?_
       refine Ao 9 Z ?_
       refine So [(sv hQ)] (FG (FQ.mk (FW.mk cC p0.cnfg.starts p0.cnfg.threads) p0.ops p0.picks) hQ i c h) Z (.there (.there (.there .here))) Z ⟨(Ic Mb1 (Ic Mb2 (Ic Mb5 (Ic Mb6 (Ic Mb7 (Ic Mb8 In0)))))), ?_⟩
       exact Ad<|Pu8<|Pu8<|Pu8<|Pu8<|Pu8<|Pu8<|Pu8<|Pu7<|Re8<|Sd<|⟨_, by exact R3, uN, ed, ee, ef, hQ, cC, uF, Z, Z, H, nj, lu⟩
      ·refine id (Jy Z ?_)
       refine Ek Tryz.call58 Z (HU E (FO.mk F g4 false) I aq ed ee ef kX _ _ O) ?_
       rintro _ ii _ ip ⟨k2, rfl, rfl, kq⟩
       refine ⟨(Ic Mb1 (Ic Mb2 (Ic Mb5 (Ic Mb6 (Ic Mb7 (Ic Mb8 In0)))))), ?_⟩
       refine Gf 2 5 (by kernel_rfl) ?_ ?_
       ·refine id (Jyq Z (FI (v := (sv j)) Z Z Z (Rb3 Z)) ⟨(Ic Mb1 (Ic Mb2 (Ic Mb5 (Ic Mb6 (Ic Mb7 (Ic Mb8 In0)))))), ?_⟩)
        refine Ao 5 Z ?_
        have iw : RowR Ty.i64 ii [[(Vi aq)]] [aq] := RowR.cons Z (RowR.nil)
        refine Gl (T := Ty.i64) (rows := [[(Vi aq)]]) (l := [aq]) Z Z Z iw Z Z Z Z Z Z Z Z (fun Bu => ⟨(Ic Mb2 (Ic Mb3 (Ic Mb6 (Ic Mb7 (Ic Mb8 (Ic Mb9 In0)))))), ?_⟩)
        refine Ao 6 Z ?_
        have nl := (s.mono a).mono ip
        refine Gi (T := Ty.i64) (bytes := 8) Z Z Z Mb5 nl (SrcT.row Mb0 iw Z) hN Z Z Z Z Z Z Z Z (fun hR uG lv => ⟨_, (.there (.there (.there (.there (.there .here))))), ⟨(Ic Mb2 (Ic Mb3 (Ic Mb6 (Ic Mb7 (Ic Mb8 (Ic Mb9 In0)))))), ?_⟩⟩)
        refine Aw.shift (Re0 (Sd ⟨(Ic Mb1 (Ic Mb2 (Ic Mb5 (Ic Mb6 (Ic Mb7 (Ic Mb8 In0)))))), ?_⟩))
        refine JF 7 0 Z<|JF 8 0 Z<|?_
        refine Ao 9 Z ?_
        refine So [(sv hR)] (FG (FQ.mk (FW.mk cC p0.cnfg.starts p0.cnfg.threads) p0.ops p0.picks) hR i c h) Z (.there (.there (.there .here))) Z ⟨(Ic Mb1 (Ic Mb2 (Ic Mb5 (Ic Mb6 (Ic Mb7 (Ic Mb8 In0)))))), ?_⟩
        exact Ad<|Pu8<|Pu8<|Pu8<|Pu8<|Pu8<|Pu8<|Pu8<|Pu7<|Re8<|Sd<|⟨_, by exact R3, k2, ed, ee, ef, hR, cC, uG, Z, Z, H, kq, lv⟩
       ·refine id (Jy Z ?_)
        have ix : RowR Ty.i64 ii [[(Vi aq)]] [aq] := RowR.cons Z (RowR.nil)
        refine Gl (T := Ty.i64) (rows := [[(Vi aq)]]) (l := [aq]) Z Z Z ix Z Z Z Z Z Z Z Z (fun Bv => ⟨(Ic Mb2 (Ic Mb3 (Ic Mb6 (Ic Mb7 (Ic Mb8 (Ic Mb9 In0)))))), ?_⟩)
        refine FP 2 (by kernel_rfl) (Jyq Z (FI (v := (sv j)) Z Z Z (Rb4 Z)) ⟨(Ic Mb2 (Ic Mb3 (Ic Mb6 (Ic Mb7 (Ic Mb8 (Ic Mb9 In0)))))), ?_⟩)
        refine Ao 6 Z ?_
        have nm := (s.mono a).mono ip
        refine Gi (T := Ty.i64) (bytes := 8) Z Z Z Mb5 nm (SrcT.row Mb0 ix Z) hN Z Z Z Z Z Z Z Z (fun hS uH lw => ⟨_, (.there (.there (.there (.there (.there .here))))), ⟨(Ic Mb2 (Ic Mb3 (Ic Mb6 (Ic Mb7 (Ic Mb8 (Ic Mb9 In0)))))), ?_⟩⟩)
        refine Aw.shift (Re0 (Sd ⟨(Ic Mb1 (Ic Mb2 (Ic Mb5 (Ic Mb6 (Ic Mb7 (Ic Mb8 In0)))))), ?_⟩))
        refine JF 7 0 Z<|JF 8 0 Z<|?_
        refine Ao 9 Z ?_
        refine So [(sv hS)] (FG (FQ.mk (FW.mk cC p0.cnfg.starts p0.cnfg.threads) p0.ops p0.picks) hS i c h) Z (.there (.there (.there .here))) Z ⟨(Ic Mb1 (Ic Mb2 (Ic Mb5 (Ic Mb6 (Ic Mb7 (Ic Mb8 In0)))))), ?_⟩
        exact Ad<|Pu8<|Pu8<|Pu8<|Pu8<|Pu8<|Pu8<|Pu8<|Pu7<|Re8<|Sd<|⟨_, by exact R3, k2, ed, ee, ef, hS, cC, uH, Z, Z, H, kq, lw⟩
     rintro _ va _ aI ⟨aX, aL, d5, d9, aM, aF, bh, rfl, rfl, H, d2, he⟩
     unfold P2 at H
     obtain ⟨ar, eg, eh, kY, H⟩ := Ix H
     obtain ⟨cD, hO, H⟩ := bnd H
     refine Gm _ Z (Ic Mb1 (Ic Mb3 (Ic Mb5 (Ic Mb6 (Ic Mb7 In0)))))<|JF 0 0 Z<|JF 1 1 Z<|Jm 3 Z<|?_
     refine Gf 2 4 (by kernel_rfl) ?_ ?_
     ·refine id (Jyq Z (FI (v := (sv i)) Z Z Z (Rb2 Z)) ⟨(Ic Mb1 (Ic Mb3 (Ic Mb5 (Ic Mb6 (Ic Mb7 In0))))), ?_⟩)
      refine Ao 4 Z ?_
      refine Ek Tryz.call59 Z (Ku E (FO.mk aL d5 d9) aX ar eg eh kY _ _ d2) ?_
      rintro _ lo _ cK ⟨rfl, rfl⟩
      refine ⟨(Ic Mb1 (Ic Mb3 (Ic Mb5 (Ic Mb6 (Ic Mb7 In0))))), ?_⟩
      refine Ao 5 Z ?_
      have iy : RowR Ty.u64 lo [[(.int .u64 ar)]] [ar] := RowR.cons Z (RowR.nil)
      refine Gl (T := Ty.u64) (rows := [[(.int .u64 ar)]]) (l := [ar]) Z Z Z iy Z Z Z Z Z Z Z Z (fun Bw => ⟨(Ic Mb2 (Ic Mb4 (Ic Mb6 (Ic Mb7 (Ic Mb8 In0))))), ?_⟩)
      refine Ao 6 Z ?_
      have nn := ((t.mono a).mono aI).mono cK
      refine Gi (T := Ty.u64) (bytes := 8) Z Z Z Mb5 nn (SrcT.row Mb0 iy Z) hO Z Z Z Z Z Z Z Z (fun hT uI lx => ⟨_, (.there (.there (.there (.there (.there .here))))), ⟨(Ic Mb2 (Ic Mb4 (Ic Mb6 (Ic Mb7 (Ic Mb8 In0))))), ?_⟩⟩)
      refine Aw.shift (Re0 (Sd ⟨(Ic Mb1 (Ic Mb3 (Ic Mb5 (Ic Mb6 (Ic Mb7 In0))))), ?_⟩))
      refine JF 7 0 Z<|JF 8 1 Z<|?_
      refine Ao 9 Z ?_
      refine So [(sv hT)] (FG (FQ.mk (FW.mk aF cD p0.cnfg.threads) p0.ops p0.picks) aM hT c h) Z (.there (.there .here)) Z ⟨(Ic Mb1 (Ic Mb3 (Ic Mb5 (Ic Mb6 (Ic Mb7 In0))))), ?_⟩
      refine Ad<|Pu7<|Pu7<|Pu7<|Pu7<|Pu7<|Pu7<|Pu7<|Pu7<|?_
      have np := d2.mono cK
      have nq := he.mono cK
      have nr := (y.mono aI).mono cK
      have ns := ((w.mono a).mono aI).mono cK
      exact Sd ⟨_, by exact R3, aX, aL, eg, eh, aM, aF, bh, hT, cD, uI, p0.cnfg.threads, c, p0.ops, e, h, p0.picks, p, Z, Z, H, np, nq, lx, nr, ns⟩
     ·refine id (Jy Z ?_)
      refine Ek Tryz.call59 Z (Ku E (FO.mk aL d5 d9) aX ar eg eh kY _ _ d2) ?_
      rintro _ ij _ aB ⟨rfl, rfl⟩
      refine ⟨(Ic Mb1 (Ic Mb3 (Ic Mb5 (Ic Mb6 (Ic Mb7 In0))))), ?_⟩
      refine Gf 2 5 (by kernel_rfl) ?_ ?_
      ·refine id (Jyq Z (FI (v := (sv i)) Z Z Z (Rb2 Z)) ⟨(Ic Mb1 (Ic Mb3 (Ic Mb5 (Ic Mb6 (Ic Mb7 In0))))), ?_⟩)
       refine Ao 5 Z ?_
       have iz : RowR Ty.u64 ij [[(.int .u64 ar)]] [ar] := RowR.cons Z (RowR.nil)
       refine Gl (T := Ty.u64) (rows := [[(.int .u64 ar)]]) (l := [ar]) Z Z Z iz Z Z Z Z Z Z Z Z (fun Bx => ⟨(Ic Mb2 (Ic Mb4 (Ic Mb6 (Ic Mb7 (Ic Mb8 In0))))), ?_⟩)
       refine Ao 6 Z ?_
       have nt := ((t.mono a).mono aI).mono aB
       refine Gi (T := Ty.u64) (bytes := 8) Z Z Z Mb5 nt (SrcT.row Mb0 iz Z) hO Z Z Z Z Z Z Z Z (fun hU uJ ly => ⟨_, (.there (.there (.there (.there (.there .here))))), ⟨(Ic Mb2 (Ic Mb4 (Ic Mb6 (Ic Mb7 (Ic Mb8 In0))))), ?_⟩⟩)
       refine Aw.shift (Re0 (Sd ⟨(Ic Mb1 (Ic Mb3 (Ic Mb5 (Ic Mb6 (Ic Mb7 In0))))), ?_⟩))
       refine JF 7 0 Z<|JF 8 1 Z<|?_
       refine Ao 9 Z ?_
       refine So [(sv hU)] (FG (FQ.mk (FW.mk aF cD p0.cnfg.threads) p0.ops p0.picks) aM hU c h) Z (.there (.there .here)) Z ⟨(Ic Mb1 (Ic Mb3 (Ic Mb5 (Ic Mb6 (Ic Mb7 In0))))), ?_⟩
       refine Ad<|Pu7<|Pu7<|Pu7<|Pu7<|Pu7<|Pu7<|Pu7<|Pu7<|?_
       have nu := d2.mono aB
       have nv := he.mono aB
       have nw := (y.mono aI).mono aB
       have nx := ((w.mono a).mono aI).mono aB
       exact Sd ⟨_, by exact R3, aX, aL, eg, eh, aM, aF, bh, hU, cD, uJ, p0.cnfg.threads, c, p0.ops, e, h, p0.picks, p, Z, Z, H, nu, nv, ly, nw, nx⟩
      ·refine id (Jy Z ?_)
       have iA : RowR Ty.u64 ij [[(.int .u64 ar)]] [ar] := RowR.cons Z (RowR.nil)
       refine Gl (T := Ty.u64) (rows := [[(.int .u64 ar)]]) (l := [ar]) Z Z Z iA Z Z Z Z Z Z Z Z (fun By => ⟨(Ic Mb2 (Ic Mb4 (Ic Mb6 (Ic Mb7 (Ic Mb8 In0))))), ?_⟩)
       refine FP 2 (by kernel_rfl) (Jyq Z (FI (v := (sv i)) Z Z Z (Rb3 Z)) ⟨(Ic Mb2 (Ic Mb4 (Ic Mb6 (Ic Mb7 (Ic Mb8 In0))))), ?_⟩)
       refine Ao 6 Z ?_
       have ny := ((t.mono a).mono aI).mono aB
       refine Gi (T := Ty.u64) (bytes := 8) Z Z Z Mb5 ny (SrcT.row Mb0 iA Z) hO Z Z Z Z Z Z Z Z (fun hV uK lz => ⟨_, (.there (.there (.there (.there (.there .here))))), ⟨(Ic Mb2 (Ic Mb4 (Ic Mb6 (Ic Mb7 (Ic Mb8 In0))))), ?_⟩⟩)
       refine Aw.shift (Re0 (Sd ⟨(Ic Mb1 (Ic Mb3 (Ic Mb5 (Ic Mb6 (Ic Mb7 In0))))), ?_⟩))
       refine JF 7 0 Z<|JF 8 1 Z<|?_
       refine Ao 9 Z ?_
       refine So [(sv hV)] (FG (FQ.mk (FW.mk aF cD p0.cnfg.threads) p0.ops p0.picks) aM hV c h) Z (.there (.there .here)) Z ⟨(Ic Mb1 (Ic Mb3 (Ic Mb5 (Ic Mb6 (Ic Mb7 In0))))), ?_⟩
       refine Ad<|Pu7<|Pu7<|Pu7<|Pu7<|Pu7<|Pu7<|Pu7<|Pu7<|?_
       have nz := d2.mono aB
       have nA := he.mono aB
       have nB := (y.mono aI).mono aB
       have nC := ((w.mono a).mono aI).mono aB
       exact Sd ⟨_, by exact R3, aX, aL, eg, eh, aM, aF, bh, hV, cD, uK, p0.cnfg.threads, c, p0.ops, e, h, p0.picks, p, Z, Z, H, nz, nA, lz, nB, nC⟩
   ·intro g8
    have H := Gu (btf g8) H
    refine FK<|FD<|Em Z<|?_
    obtain ⟨u6, ib, uz, H⟩ := Ig H
    refine FT Z (Ek Tryz.call57 Z (HN E (FO.mk F g4 false) I (⟨#[116, 104, 114, 101, 97, 100]⟩ : ByteArray) u6 ib uz _ _ O) ?_)
    rintro _ _ _ - ⟨rfl, rfl, rfl⟩
    refine Ea Z<|FH<|?_
    refine F2 Z ?_ ?_
    ·intro g9
     have H := ift g9 H
     refine FK<|FD<|EF 3 Z<|El (sv c) Z (Rb3 Z)<|?_
     have iB : RowR (Ty.sl FU) ih [[(sv FZ)]] [[]] := RowR.cons ⟨FZ, Z, (Slr.nil FU _)⟩ (RowR.nil)
     refine FT Z (Gl (T := (Ty.sl FU)) (rows := [[(sv FZ)]]) (l := [[]]) Z Z Z iB Z Z Z Z Z Z Z Z (fun Bz => ?_))
     obtain ⟨cE, uA, H⟩ := bnd H
     refine FT Z (O7 (T := (Ty.sl FU)) (bytes := 24) Z Z Z Mb7 y Mb0 iB uA Z Z Z Z Z Z Z Z (fun ea uL na iC => ⟨_, (.there (.there (.there (.there (.there (.there (.there .here))))))), ?_⟩))
     obtain rfl : uL = (e ++ [(sv FZ)]).map one := by rw [na, List.map_append]; rfl
     refine Ow.shift (Shift.tokNil (.there (.there (.there (.there (.there (.there (.there (.there .here)))))))) (Sd ?_))
     rw [show (Value.slice none 0 0) = (sv FZ) from rfl]
     refine Ow.shift (Re0 (Sd ?_))
     refine EF 3 Z ?_
     refine FT Z (So [(sv ea)] (FG (FQ.mk p0.cnfg cE p0.picks) j i ea h) Z (.there (.there (.there .here))) Z ?_)
     refine FH<|FD<|EF 3 Z<|El (sv ea) Z (Rb3 Z)<|Eq Z (Ik (T := (Ty.sl FU)) Mb6 iC Z Z Z)<|EF 0 Z<|EF 2 Z<|?_
     refine FT Z (So [(Vi (cE.length : Int))] (FG (FQ.mk (FW.mk p0.cnfg.capacities p0.cnfg.starts (cE.length : Int)) cE p0.picks) j i ea h) Z (.there (.there (.there .here))) Z ?_)
     refine FH<|Pu8<|Pu8<|Pu8<|Pu8<|Pu8<|Pu8<|Pu8<|Pu7<|Re8<|?_
     have nD := s.mono a
     have nE := t.mono a
     have nF := w.mono a
     exact Sd ⟨_, by exact R3, I, F, ib, false, j, p0.cnfg.capacities, u, i, p0.cnfg.starts, r, (cE.length : Int), ea, cE, (e ++ [(sv FZ)]), h, p0.picks, p, Z, Z, H, O, nD, nE, iC, nF⟩
    ·intro g9
     have H := Gu (btf g9) H
     refine FK<|FD<|Em Z<|?_
     obtain ⟨u7, ic, uB, H⟩ := Ig H
     refine FT Z (Ek Tryz.call57 Z (HN E (FO.mk F ib false) I (⟨#[112, 105, 99, 107, 115]⟩ : ByteArray) u7 ic uB _ _ O) ?_)
     rintro _ _ _ - ⟨rfl, rfl, rfl⟩
     refine Ea Z<|FH<|?_
     refine F2 Z ?_ ?_
     ·intro ha
      have H := ift ha H
      refine FD<|Em Z<|?_
      obtain ⟨ie, lj, lk, ll, uC, H⟩ := IN H
      refine FT Z (Ek Tryz.call60 Z (UM E (FO.mk F ic false) I ie lj lk ll uC _ _ O) ?_)
      rintro _ vb _ hd ⟨hW, uM, uO, rfl, rfl, nG, nH⟩
      refine EF 4 Z ?_
      refine FT Z (So [(sv hW)] (FG (FQ.mk p0.cnfg p0.ops ie) j i c hW) Z (.there (.there (.there (.there .here)))) Z ?_)
      refine FH<|Pu1<|Pu8<|Pu8<|Pu8<|Pu8<|Pu8<|Pu8<|Pu7<|Re8<|Re8<|?_
      have nI := (s.mono a).mono hd
      have nJ := (t.mono a).mono hd
      have nK := y.mono hd
      exact Sd ⟨_, by exact R3, uO, lj, lk, ll, j, p0.cnfg.capacities, u, i, p0.cnfg.starts, r, p0.cnfg.threads, c, p0.ops, e, hW, ie, uM, Z, Z, H, nH, nI, nJ, nK, nG⟩
     ·intro ha
      have H := Gu (btf ha) H
      refine FK<|FD<|Em Z<|?_
      obtain ⟨u8, lm, uD, H⟩ := Ig H
      refine FT Z (Ek Tryz.call57 Z (HN E (FO.mk F ic false) I (⟨#[]⟩ : ByteArray) u8 lm uD _ _ O) ?_)
      rintro _ _ _ - ⟨rfl, rfl, rfl⟩
      refine Ea Z<|FH<|?_
      refine F2 Z ?_ ?_
      ·intro hb
       have H := ift hb H
       refine FK ?_
       refine Gk (fun cG Q G' => ∃ (hP : Bool) (P : Int), [(3, (Vp a6)), (6, (Vp a7)), (8, (Vp E)), (9, (Vi (p0.ops.length : Int))), (73, (.bool hP))] = cG ∧ ih = Q ∧ (.blk E 97 (F5 (FO.mk F P false) I)) :: (.blk a7 33 (FG (FQ.mk (FW.mk [] [] 0) [] []) FZ FZ FZ FZ)) :: (.blk a6 33 (FG p0 j i c h)) :: (.tok 9 1 [(sv I)]) :: (.row (sv j) 3 1 u.flatten) :: (.row (sv i) 53 1 r.flatten) :: (.row (sv c) 51 1 (e.map one).flatten) :: (.tok 70 7 e) :: (.row (sv h) 3 1 p.flatten) :: G = G' ∧ O0 p0 F hP P = some (y0, y1)) ?_ ?_
       ·refine FD<|Em Z<|?_
        obtain ⟨u9, ig, uE, H⟩ := Ig H
        refine FT Z (Ek Tryz.call57 Z (HN E (FO.mk F lm false) I (⟨#[]⟩ : ByteArray) u9 ig uE _ _ O) ?_)
        rintro _ _ _ - ⟨rfl, rfl, rfl⟩
        refine Eq Z (GW Z)<|Em Z<|?_
        refine Ee Z ?_ ?_
        ·intro a0
         have a0 := GR a0
         have H := Gu (btf a0) H
         exact Ez Z<|Ez Z<|Et Z<|FH<|Pu8<|Pu8<|Pu8<|Pu8<|Pu8<|Pu6<|Pu8<|Pu8<|Pu8<|Sd<|⟨_, by exact R5, true, ig, Z, Z, Z, H⟩
        ·intro a0
         have a0 := GQ a0
         have H := ift a0 H
         exact Vm Z<|Vc Z<|Ef Z<|FH<|Pu8<|Pu8<|Pu8<|Pu8<|Pu8<|Pu6<|Pu8<|Pu8<|Pu8<|Sd<|⟨_, by exact R5, (dcd ((p0.ops.length : Int) = 0)), ig, Z, Z, Z, H⟩
       rintro _ _ _ - ⟨hP, P, rfl, rfl, rfl, H⟩
       unfold O0 at H
       refine F2 Z ?_ ?_
       ·intro hc
        have H := ift hc H
        refine FK<|FD<|EL 5 (FG p0 j i c h) Z (Rb2 Z)<|?_
        refine FT Z (Sa (FG p0 j i c h) Z (.there .here) Z ?_)
        refine Ea Z<|FH<|Gg<|?_
        obtain ⟨cH, cI⟩ := K8 H
        subst y0 y1
        refine ⟨(.inl Z), [(.agg (FG p0 j i c h).toArray), (.bool false)], ⟨(.agg (FG p0 j i c h).toArray), _, Z, ⟨_, 5, (FG p0 j i c h), Z, Z, Z, Z, ⟨Z, Rb1 Z⟩, Z⟩, ⟨(.bool false), _, Z, Z, Z⟩⟩, ?_⟩
        refine Pu8<|Pu8<|Pu8<|Pu8<|Pu8<|Re5<|Re5<|Re5<|Re5<|?_
        have nL := s.mono a
        have nM := t.mono a
        have nN := w.mono a
        exact Sd ⟨j, u, i, r, c, e, h, p, Z, Z, nL, nM, y, nN⟩
       ·intro hc
        have H := Gu (btf hc) H
        refine F8 ?_
        obtain ⟨Dx, z, H⟩ := bnd H
        obtain ⟨b, k, m, n, al, H⟩ := IN H
        obtain ⟨g, x, H⟩ := bnd H
        obtain ⟨Dy, f, H⟩ := bnd H
        refine Gm _ Z (Ic Mb1 (Ic Mb3 (Ic Mb4 (Ic Mb5 (Ic Mb8 In0)))))<|JF 0 3 Z<|Jm 2 Z<|Jr 3 (wI ((p0.ops.length : Int) - 1)) Z<|JF 4 3 Z<|Jm 6 Z<|Jr 7 (wI ((p0.ops.length : Int) - 1)) Z<|Jm 10 Z<|?_
        refine GG 1 5 11 (by kernel_rfl) ?_ ?_ ?_
        ·refine id (Jyq Z (FI (v := (sv c)) Z Z Z (Rb2 Z)) ⟨(Ic Mb1 (Ic Mb3 (Ic Mb4 (Ic Mb5 (Ic Mb8 In0))))), ?_⟩)
         refine Gf 5 11 (by kernel_rfl) ?_ ?_
         ·refine id (Jyq Z (FI (v := (sv c)) Z Z Z (Rb2 Z)) ⟨(Ic Mb1 (Ic Mb3 (Ic Mb4 (Ic Mb5 (Ic Mb8 In0))))), ?_⟩)
          refine Gf 8 11 (by kernel_rfl) ?_ ?_
          ·obtain ⟨zO, d0, lB⟩ := RowR.at y z
           obtain ⟨hX, rfl, hv⟩ := lB
           have hI := FV d0
           refine id (Jyq Z (F6 (T := (Ty.sl FU)) Mb6 y d0 (FSq z).1 Z Z Z Z Z) ⟨(Ic Mb1 (Ic Mb3 (Ic Mb4 (Ic Mb5 (Ic Mb8 In0))))), ?_⟩)
           refine Gf 9 11 (by kernel_rfl) ?_ ?_
           ·refine id (Jyq Z (FI (v := (sv hX)) Z Z Z (Gj (T := (Ty.sl FU)) Mb6 y d0 Z Z)) ⟨(Ic Mb1 (Ic Mb3 (Ic Mb4 (Ic Mb5 (Ic Mb8 In0))))), ?_⟩)
            refine Ao 11 Z ?_
            refine Ek Tryz.call61 Z (Hh E (FO.mk F P false) I b k m n al _ _ O) ?_
            rintro _ lp _ cL ⟨hY, hZ, uP, rfl, rfl, nO, nP, nQ⟩
            refine ⟨(Ic Mb1 (Ic Mb3 (Ic Mb4 (Ic Mb5 (Ic Mb8 In0))))), ?_⟩
            refine Ao 12 Z ?_
            have iD : RowR FU lp [(FM b hY hZ)] [b] := RowR.cons ⟨hY, hZ, Z, nO, nP⟩ (RowR.nil)
            refine Gl (T := FU) (rows := [(FM b hY hZ)]) (l := [b]) Z Z Z iD Z Z Z Z Z Z Z Z (fun BA => ⟨(Ic Mb2 (Ic Mb4 (Ic Mb5 (Ic Mb6 (Ic Mb9 In0))))), ?_⟩)
            refine Ao 13 Z ?_
            have nS := hv.mono cL
            refine F7 (T := FU) (bytes := 88) (q := (wI ((p0.ops.length : Int) - 1)).toNat) Z Z Z nS Mb8 hI (SrcT.row Mb0 iD Z) x Z Z Z Z Z Z Z Z (fun bj vc cM nR => ⟨_, (.there (.there (.there (.there (.there (.there (.there (.there .here)))))))), ⟨(Ic Mb2 (Ic Mb4 (Ic Mb5 (Ic Mb6 (Ic Mb9 In0))))), ?_⟩⟩)
            refine Aw.shift (Re0 (Sd ⟨(Ic Mb1 (Ic Mb3 (Ic Mb4 (Ic Mb5 (Ic Mb8 In0))))), ?_⟩))
            have fE := (y.mono cL).mono cM
            obtain ⟨zP, em, lC⟩ := RowR.at fE f
            obtain ⟨BB, rfl, xw⟩ := lC
            have yE := FV em
            refine FP 14 (by kernel_rfl) (Jyq Z (F6 (T := (Ty.sl FU)) Mb6 fE em (FSq f).1 Z Z Z Z Z) ⟨(Ic Mb1 (Ic Mb3 (Ic Mb4 (Ic Mb5 (Ic Mb8 In0))))), ?_⟩)
            refine Ao 15 Z ?_
            refine FX (T := (Ty.sl FU)) (vs := [(sv bj)]) (r' := [(sv bj)]) (l' := (Ge p0.ops (wI ((p0.ops.length : Int) - 1)) g)) Z Z Z Z Z (.there (.there (.there (.there (.there (.there .here)))))) fE em Z Z Z (RowR.set (wI ((p0.ops.length : Int) - 1)) fE ⟨bj, Z, nR⟩) (fun iE => ⟨(Ic Mb1 (Ic Mb3 (Ic Mb4 (Ic Mb5 (Ic Mb8 In0))))), ?_⟩)
            have hse := FY e (wI ((p0.ops.length : Int) - 1)).toNat (sv bj)
            rw [hse] at iE ⊢
            clear hse
            have wm := F3 em (v := (sv bj))
            refine Ad<|Pu8<|Pu8<|Pu8<|Pu8<|Pu8<|Pu7<|Pu7<|Pu7<|Re8<|?_
            have nT := nQ.mono cM
            have nU := ((s.mono a).mono cL).mono cM
            have nV := ((t.mono a).mono cL).mono cM
            have nW := ((w.mono a).mono cL).mono cM
            exact Sd ⟨_, by exact R3, uP, k, m, n, j, p0.cnfg.capacities, u, i, p0.cnfg.starts, r, p0.cnfg.threads, c, (Ge p0.ops (wI ((p0.ops.length : Int) - 1)) g), (e.set (wI ((p0.ops.length : Int) - 1)).toNat (sv bj)), h, p0.picks, p, Z, Z, H, nT, nU, nV, iE, nW⟩
           ·refine id (Jy Z ?_)
            refine Ek Tryz.call61 Z (Hh E (FO.mk F P false) I b k m n al _ _ O) ?_
            rintro _ ik _ aC ⟨bk, bl, k3, rfl, rfl, kr, ks, kt⟩
            refine ⟨(Ic Mb1 (Ic Mb3 (Ic Mb4 (Ic Mb5 (Ic Mb8 In0))))), ?_⟩
            refine Gf 9 12 (by kernel_rfl) ?_ ?_
            ·have ku := y.mono aC
             refine id (Jyq Z (FI (v := (sv hX)) Z Z Z (Gj (T := (Ty.sl FU)) Mb6 ku d0 Z Z)) ⟨(Ic Mb1 (Ic Mb3 (Ic Mb4 (Ic Mb5 (Ic Mb8 In0))))), ?_⟩)
             refine Ao 12 Z ?_
             have iF : RowR FU ik [(FM b bk bl)] [b] := RowR.cons ⟨bk, bl, Z, kr, ks⟩ (RowR.nil)
             refine Gl (T := FU) (rows := [(FM b bk bl)]) (l := [b]) Z Z Z iF Z Z Z Z Z Z Z Z (fun BC => ⟨(Ic Mb2 (Ic Mb4 (Ic Mb5 (Ic Mb6 (Ic Mb9 In0))))), ?_⟩)
             refine Ao 13 Z ?_
             have nY := hv.mono aC
             refine F7 (T := FU) (bytes := 88) (q := (wI ((p0.ops.length : Int) - 1)).toNat) Z Z Z nY Mb8 hI (SrcT.row Mb0 iF Z) x Z Z Z Z Z Z Z Z (fun bm vd cN nX => ⟨_, (.there (.there (.there (.there (.there (.there (.there (.there .here)))))))), ⟨(Ic Mb2 (Ic Mb4 (Ic Mb5 (Ic Mb6 (Ic Mb9 In0))))), ?_⟩⟩)
             refine Aw.shift (Re0 (Sd ⟨(Ic Mb1 (Ic Mb3 (Ic Mb4 (Ic Mb5 (Ic Mb8 In0))))), ?_⟩))
             have fF := ku.mono cN
             obtain ⟨zQ, en, lD⟩ := RowR.at fF f
             obtain ⟨BD, rfl, xx⟩ := lD
             have yF := FV en
             refine FP 14 (by kernel_rfl) (Jyq Z (F6 (T := (Ty.sl FU)) Mb6 fF en (FSq f).1 Z Z Z Z Z) ⟨(Ic Mb1 (Ic Mb3 (Ic Mb4 (Ic Mb5 (Ic Mb8 In0))))), ?_⟩)
             refine Ao 15 Z ?_
             refine FX (T := (Ty.sl FU)) (vs := [(sv bm)]) (r' := [(sv bm)]) (l' := (Ge p0.ops (wI ((p0.ops.length : Int) - 1)) g)) Z Z Z Z Z (.there (.there (.there (.there (.there (.there .here)))))) fF en Z Z Z (RowR.set (wI ((p0.ops.length : Int) - 1)) fF ⟨bm, Z, nX⟩) (fun iG => ⟨(Ic Mb1 (Ic Mb3 (Ic Mb4 (Ic Mb5 (Ic Mb8 In0))))), ?_⟩)
             have hse := FY e (wI ((p0.ops.length : Int) - 1)).toNat (sv bm)
             rw [hse] at iG ⊢
             clear hse
             have wn := F3 en (v := (sv bm))
             refine Ad<|Pu8<|Pu8<|Pu8<|Pu8<|Pu8<|Pu7<|Pu7<|Pu7<|Re8<|?_
             have nZ := kt.mono cN
             have n0 := ((s.mono a).mono aC).mono cN
             have n1 := ((t.mono a).mono aC).mono cN
             have n2 := ((w.mono a).mono aC).mono cN
             exact Sd ⟨_, by exact R3, k3, k, m, n, j, p0.cnfg.capacities, u, i, p0.cnfg.starts, r, p0.cnfg.threads, c, (Ge p0.ops (wI ((p0.ops.length : Int) - 1)) g), (e.set (wI ((p0.ops.length : Int) - 1)).toNat (sv bm)), h, p0.picks, p, Z, Z, H, nZ, n0, n1, iG, n2⟩
            ·refine id (Jy Z ?_)
             have iH : RowR FU ik [(FM b bk bl)] [b] := RowR.cons ⟨bk, bl, Z, kr, ks⟩ (RowR.nil)
             refine Gl (T := FU) (rows := [(FM b bk bl)]) (l := [b]) Z Z Z iH Z Z Z Z Z Z Z Z (fun BE => ⟨(Ic Mb2 (Ic Mb4 (Ic Mb5 (Ic Mb6 (Ic Mb9 In0))))), ?_⟩)
             have kv := y.mono aC
             refine FP 9 (by kernel_rfl) (Jyq Z (FI (v := (sv hX)) Z Z Z (Gj (T := (Ty.sl FU)) Mb7 kv d0 Z Z)) ⟨(Ic Mb2 (Ic Mb4 (Ic Mb5 (Ic Mb6 (Ic Mb9 In0))))), ?_⟩)
             refine Ao 13 Z ?_
             have n4 := hv.mono aC
             refine F7 (T := FU) (bytes := 88) (q := (wI ((p0.ops.length : Int) - 1)).toNat) Z Z Z n4 Mb8 hI (SrcT.row Mb0 iH Z) x Z Z Z Z Z Z Z Z (fun bn ve cO n3 => ⟨_, (.there (.there (.there (.there (.there (.there (.there (.there .here)))))))), ⟨(Ic Mb2 (Ic Mb4 (Ic Mb5 (Ic Mb6 (Ic Mb9 In0))))), ?_⟩⟩)
             refine Aw.shift (Re0 (Sd ⟨(Ic Mb1 (Ic Mb3 (Ic Mb4 (Ic Mb5 (Ic Mb8 In0))))), ?_⟩))
             have fG := kv.mono cO
             obtain ⟨zR, eo, lE⟩ := RowR.at fG f
             obtain ⟨BG, rfl, xy⟩ := lE
             have yG := FV eo
             refine FP 14 (by kernel_rfl) (Jyq Z (F6 (T := (Ty.sl FU)) Mb6 fG eo (FSq f).1 Z Z Z Z Z) ⟨(Ic Mb1 (Ic Mb3 (Ic Mb4 (Ic Mb5 (Ic Mb8 In0))))), ?_⟩)
             refine Ao 15 Z ?_
             refine FX (T := (Ty.sl FU)) (vs := [(sv bn)]) (r' := [(sv bn)]) (l' := (Ge p0.ops (wI ((p0.ops.length : Int) - 1)) g)) Z Z Z Z Z (.there (.there (.there (.there (.there (.there .here)))))) fG eo Z Z Z (RowR.set (wI ((p0.ops.length : Int) - 1)) fG ⟨bn, Z, n3⟩) (fun iI => ⟨(Ic Mb1 (Ic Mb3 (Ic Mb4 (Ic Mb5 (Ic Mb8 In0))))), ?_⟩)
             have hse := FY e (wI ((p0.ops.length : Int) - 1)).toNat (sv bn)
             rw [hse] at iI ⊢
             clear hse
             have wo := F3 eo (v := (sv bn))
             refine Ad<|Pu8<|Pu8<|Pu8<|Pu8<|Pu8<|Pu7<|Pu7<|Pu7<|Re8<|?_
             have n5 := kt.mono cO
             have n6 := ((s.mono a).mono aC).mono cO
             have n7 := ((t.mono a).mono aC).mono cO
             have n8 := ((w.mono a).mono aC).mono cO
             exact Sd ⟨_, by exact R3, k3, k, m, n, j, p0.cnfg.capacities, u, i, p0.cnfg.starts, r, p0.cnfg.threads, c, (Ge p0.ops (wI ((p0.ops.length : Int) - 1)) g), (e.set (wI ((p0.ops.length : Int) - 1)).toNat (sv bn)), h, p0.picks, p, Z, Z, H, n5, n6, n7, iI, n8⟩
          ·refine id (Jy Z ?_)
           refine Ek Tryz.call61 Z (Hh E (FO.mk F P false) I b k m n al _ _ O) ?_
           rintro _ g5 _ ax ⟨aN, aO, h0, rfl, rfl, hw, hx, hy⟩
           refine ⟨(Ic Mb1 (Ic Mb3 (Ic Mb4 (Ic Mb5 (Ic Mb8 In0))))), ?_⟩
           refine Gf 8 12 (by kernel_rfl) ?_ ?_
           ·have a9 := y.mono ax
            obtain ⟨zS, ep, lF⟩ := RowR.at a9 z
            obtain ⟨k4, rfl, kw⟩ := lF
            have kR := FV ep
            refine id (Jyq Z (F6 (T := (Ty.sl FU)) Mb6 a9 ep (FSq z).1 Z Z Z Z Z) ⟨(Ic Mb1 (Ic Mb3 (Ic Mb4 (Ic Mb5 (Ic Mb8 In0))))), ?_⟩)
            refine Gf 9 12 (by kernel_rfl) ?_ ?_
            ·refine id (Jyq Z (FI (v := (sv k4)) Z Z Z (Gj (T := (Ty.sl FU)) Mb6 a9 ep Z Z)) ⟨(Ic Mb1 (Ic Mb3 (Ic Mb4 (Ic Mb5 (Ic Mb8 In0))))), ?_⟩)
             refine Ao 12 Z ?_
             have iJ : RowR FU g5 [(FM b aN aO)] [b] := RowR.cons ⟨aN, aO, Z, hw, hx⟩ (RowR.nil)
             refine Gl (T := FU) (rows := [(FM b aN aO)]) (l := [b]) Z Z Z iJ Z Z Z Z Z Z Z Z (fun BH => ⟨(Ic Mb2 (Ic Mb4 (Ic Mb5 (Ic Mb6 (Ic Mb9 In0))))), ?_⟩)
             refine Ao 13 Z ?_
             refine F7 (T := FU) (bytes := 88) (q := (wI ((p0.ops.length : Int) - 1)).toNat) Z Z Z kw Mb8 kR (SrcT.row Mb0 iJ Z) x Z Z Z Z Z Z Z Z (fun bo vf cP n9 => ⟨_, (.there (.there (.there (.there (.there (.there (.there (.there .here)))))))), ⟨(Ic Mb2 (Ic Mb4 (Ic Mb5 (Ic Mb6 (Ic Mb9 In0))))), ?_⟩⟩)
             refine Aw.shift (Re0 (Sd ⟨(Ic Mb1 (Ic Mb3 (Ic Mb4 (Ic Mb5 (Ic Mb8 In0))))), ?_⟩))
             have fH := a9.mono cP
             obtain ⟨zT, er, lG⟩ := RowR.at fH f
             obtain ⟨BI, rfl, xz⟩ := lG
             have yH := FV er
             refine FP 14 (by kernel_rfl) (Jyq Z (F6 (T := (Ty.sl FU)) Mb6 fH er (FSq f).1 Z Z Z Z Z) ⟨(Ic Mb1 (Ic Mb3 (Ic Mb4 (Ic Mb5 (Ic Mb8 In0))))), ?_⟩)
             refine Ao 15 Z ?_
             refine FX (T := (Ty.sl FU)) (vs := [(sv bo)]) (r' := [(sv bo)]) (l' := (Ge p0.ops (wI ((p0.ops.length : Int) - 1)) g)) Z Z Z Z Z (.there (.there (.there (.there (.there (.there .here)))))) fH er Z Z Z (RowR.set (wI ((p0.ops.length : Int) - 1)) fH ⟨bo, Z, n9⟩) (fun iK => ⟨(Ic Mb1 (Ic Mb3 (Ic Mb4 (Ic Mb5 (Ic Mb8 In0))))), ?_⟩)
             have hse := FY e (wI ((p0.ops.length : Int) - 1)).toNat (sv bo)
             rw [hse] at iK ⊢
             clear hse
             have wp := F3 er (v := (sv bo))
             refine Ad<|Pu8<|Pu8<|Pu8<|Pu8<|Pu8<|Pu7<|Pu7<|Pu7<|Re8<|?_
             have oa := hy.mono cP
             have ob := ((s.mono a).mono ax).mono cP
             have oc := ((t.mono a).mono ax).mono cP
             have od := ((w.mono a).mono ax).mono cP
             exact Sd ⟨_, by exact R3, h0, k, m, n, j, p0.cnfg.capacities, u, i, p0.cnfg.starts, r, p0.cnfg.threads, c, (Ge p0.ops (wI ((p0.ops.length : Int) - 1)) g), (e.set (wI ((p0.ops.length : Int) - 1)).toNat (sv bo)), h, p0.picks, p, Z, Z, H, oa, ob, oc, iK, od⟩
            ·refine id (Jy Z ?_)
             have iL : RowR FU g5 [(FM b aN aO)] [b] := RowR.cons ⟨aN, aO, Z, hw, hx⟩ (RowR.nil)
             refine Gl (T := FU) (rows := [(FM b aN aO)]) (l := [b]) Z Z Z iL Z Z Z Z Z Z Z Z (fun BJ => ⟨(Ic Mb2 (Ic Mb4 (Ic Mb5 (Ic Mb6 (Ic Mb9 In0))))), ?_⟩)
             refine FP 9 (by kernel_rfl) (Jyq Z (FI (v := (sv k4)) Z Z Z (Gj (T := (Ty.sl FU)) Mb7 a9 ep Z Z)) ⟨(Ic Mb2 (Ic Mb4 (Ic Mb5 (Ic Mb6 (Ic Mb9 In0))))), ?_⟩)
             refine Ao 13 Z ?_
             refine F7 (T := FU) (bytes := 88) (q := (wI ((p0.ops.length : Int) - 1)).toNat) Z Z Z kw Mb8 kR (SrcT.row Mb0 iL Z) x Z Z Z Z Z Z Z Z (fun bp vg cQ oe => ⟨_, (.there (.there (.there (.there (.there (.there (.there (.there .here)))))))), ⟨(Ic Mb2 (Ic Mb4 (Ic Mb5 (Ic Mb6 (Ic Mb9 In0))))), ?_⟩⟩)
             refine Aw.shift (Re0 (Sd ⟨(Ic Mb1 (Ic Mb3 (Ic Mb4 (Ic Mb5 (Ic Mb8 In0))))), ?_⟩))
             have fI := a9.mono cQ
             obtain ⟨zU, es, lH⟩ := RowR.at fI f
             obtain ⟨BK, rfl, xA⟩ := lH
             have yI := FV es
             refine FP 14 (by kernel_rfl) (Jyq Z (F6 (T := (Ty.sl FU)) Mb6 fI es (FSq f).1 Z Z Z Z Z) ⟨(Ic Mb1 (Ic Mb3 (Ic Mb4 (Ic Mb5 (Ic Mb8 In0))))), ?_⟩)
             refine Ao 15 Z ?_
             refine FX (T := (Ty.sl FU)) (vs := [(sv bp)]) (r' := [(sv bp)]) (l' := (Ge p0.ops (wI ((p0.ops.length : Int) - 1)) g)) Z Z Z Z Z (.there (.there (.there (.there (.there (.there .here)))))) fI es Z Z Z (RowR.set (wI ((p0.ops.length : Int) - 1)) fI ⟨bp, Z, oe⟩) (fun iM => ⟨(Ic Mb1 (Ic Mb3 (Ic Mb4 (Ic Mb5 (Ic Mb8 In0))))), ?_⟩)
             have hse := FY e (wI ((p0.ops.length : Int) - 1)).toNat (sv bp)
             rw [hse] at iM ⊢
             clear hse
             have wq := F3 es (v := (sv bp))
             refine Ad<|Pu8<|Pu8<|Pu8<|Pu8<|Pu8<|Pu7<|Pu7<|Pu7<|Re8<|?_
             have of := hy.mono cQ
             have og := ((s.mono a).mono ax).mono cQ
             have oh := ((t.mono a).mono ax).mono cQ
             have oi := ((w.mono a).mono ax).mono cQ
             exact Sd ⟨_, by exact R3, h0, k, m, n, j, p0.cnfg.capacities, u, i, p0.cnfg.starts, r, p0.cnfg.threads, c, (Ge p0.ops (wI ((p0.ops.length : Int) - 1)) g), (e.set (wI ((p0.ops.length : Int) - 1)).toNat (sv bp)), h, p0.picks, p, Z, Z, H, of, og, oh, iM, oi⟩
           ·refine id (Jy Z ?_)
            have iN : RowR FU g5 [(FM b aN aO)] [b] := RowR.cons ⟨aN, aO, Z, hw, hx⟩ (RowR.nil)
            refine Gl (T := FU) (rows := [(FM b aN aO)]) (l := [b]) Z Z Z iN Z Z Z Z Z Z Z Z (fun BL => ⟨(Ic Mb2 (Ic Mb4 (Ic Mb5 (Ic Mb6 (Ic Mb9 In0))))), ?_⟩)
            have fJ := y.mono ax
            obtain ⟨zV, hj, lI⟩ := RowR.at fJ z
            obtain ⟨uQ, rfl, oj⟩ := lI
            have ul := FV hj
            refine FP 8 (by kernel_rfl) (Jyq Z (F6 (T := (Ty.sl FU)) Mb7 fJ hj (FSq z).1 Z Z Z Z Z) ⟨(Ic Mb2 (Ic Mb4 (Ic Mb5 (Ic Mb6 (Ic Mb9 In0))))), ?_⟩)
            refine FP 9 (by kernel_rfl) (Jyq Z (FI (v := (sv uQ)) Z Z Z (Gj (T := (Ty.sl FU)) Mb7 fJ hj Z Z)) ⟨(Ic Mb2 (Ic Mb4 (Ic Mb5 (Ic Mb6 (Ic Mb9 In0))))), ?_⟩)
            refine Ao 13 Z ?_
            refine F7 (T := FU) (bytes := 88) (q := (wI ((p0.ops.length : Int) - 1)).toNat) Z Z Z oj Mb8 ul (SrcT.row Mb0 iN Z) x Z Z Z Z Z Z Z Z (fun bq vh cR ol => ⟨_, (.there (.there (.there (.there (.there (.there (.there (.there .here)))))))), ⟨(Ic Mb2 (Ic Mb4 (Ic Mb5 (Ic Mb6 (Ic Mb9 In0))))), ?_⟩⟩)
            refine Aw.shift (Re0 (Sd ⟨(Ic Mb1 (Ic Mb3 (Ic Mb4 (Ic Mb5 (Ic Mb8 In0))))), ?_⟩))
            have fK := fJ.mono cR
            obtain ⟨zW, et, lJ⟩ := RowR.at fK f
            obtain ⟨BM, rfl, xB⟩ := lJ
            have yJ := FV et
            refine FP 14 (by kernel_rfl) (Jyq Z (F6 (T := (Ty.sl FU)) Mb6 fK et (FSq f).1 Z Z Z Z Z) ⟨(Ic Mb1 (Ic Mb3 (Ic Mb4 (Ic Mb5 (Ic Mb8 In0))))), ?_⟩)
            refine Ao 15 Z ?_
            refine FX (T := (Ty.sl FU)) (vs := [(sv bq)]) (r' := [(sv bq)]) (l' := (Ge p0.ops (wI ((p0.ops.length : Int) - 1)) g)) Z Z Z Z Z (.there (.there (.there (.there (.there (.there .here)))))) fK et Z Z Z (RowR.set (wI ((p0.ops.length : Int) - 1)) fK ⟨bq, Z, ol⟩) (fun iO => ⟨(Ic Mb1 (Ic Mb3 (Ic Mb4 (Ic Mb5 (Ic Mb8 In0))))), ?_⟩)
            have hse := FY e (wI ((p0.ops.length : Int) - 1)).toNat (sv bq)
            rw [hse] at iO ⊢
            clear hse
            have wr := F3 et (v := (sv bq))
            refine Ad<|Pu8<|Pu8<|Pu8<|Pu8<|Pu8<|Pu7<|Pu7<|Pu7<|Re8<|?_
            have om := hy.mono cR
            have on := ((s.mono a).mono ax).mono cR
            have oo := ((t.mono a).mono ax).mono cR
            have op := ((w.mono a).mono ax).mono cR
            exact Sd ⟨_, by exact R3, h0, k, m, n, j, p0.cnfg.capacities, u, i, p0.cnfg.starts, r, p0.cnfg.threads, c, (Ge p0.ops (wI ((p0.ops.length : Int) - 1)) g), (e.set (wI ((p0.ops.length : Int) - 1)).toNat (sv bq)), h, p0.picks, p, Z, Z, H, om, on, oo, iO, op⟩
         ·refine id (Jy Z ?_)
          refine Ek Tryz.call61 Z (Hh E (FO.mk F P false) I b k m n al _ _ O) ?_
          rintro _ ei _ R ⟨av, aw, g3, rfl, rfl, fL, fM, fN⟩
          refine ⟨(Ic Mb1 (Ic Mb3 (Ic Mb4 (Ic Mb5 (Ic Mb8 In0))))), ?_⟩
          refine Gf 5 12 (by kernel_rfl) ?_ ?_
          ·refine id (Jyq Z (FI (v := (sv c)) Z Z Z (Rb2 Z)) ⟨(Ic Mb1 (Ic Mb3 (Ic Mb4 (Ic Mb5 (Ic Mb8 In0))))), ?_⟩)
           refine Gf 8 12 (by kernel_rfl) ?_ ?_
           ·have ba := y.mono R
            obtain ⟨zX, eu, lK⟩ := RowR.at ba z
            obtain ⟨k5, rfl, kx⟩ := lK
            have kS := FV eu
            refine id (Jyq Z (F6 (T := (Ty.sl FU)) Mb6 ba eu (FSq z).1 Z Z Z Z Z) ⟨(Ic Mb1 (Ic Mb3 (Ic Mb4 (Ic Mb5 (Ic Mb8 In0))))), ?_⟩)
            refine Gf 9 12 (by kernel_rfl) ?_ ?_
            ·refine id (Jyq Z (FI (v := (sv k5)) Z Z Z (Gj (T := (Ty.sl FU)) Mb6 ba eu Z Z)) ⟨(Ic Mb1 (Ic Mb3 (Ic Mb4 (Ic Mb5 (Ic Mb8 In0))))), ?_⟩)
             refine Ao 12 Z ?_
             have iP : RowR FU ei [(FM b av aw)] [b] := RowR.cons ⟨av, aw, Z, fL, fM⟩ (RowR.nil)
             refine Gl (T := FU) (rows := [(FM b av aw)]) (l := [b]) Z Z Z iP Z Z Z Z Z Z Z Z (fun BN => ⟨(Ic Mb2 (Ic Mb4 (Ic Mb5 (Ic Mb6 (Ic Mb9 In0))))), ?_⟩)
             refine Ao 13 Z ?_
             refine F7 (T := FU) (bytes := 88) (q := (wI ((p0.ops.length : Int) - 1)).toNat) Z Z Z kx Mb8 kS (SrcT.row Mb0 iP Z) x Z Z Z Z Z Z Z Z (fun br vi cS oq => ⟨_, (.there (.there (.there (.there (.there (.there (.there (.there .here)))))))), ⟨(Ic Mb2 (Ic Mb4 (Ic Mb5 (Ic Mb6 (Ic Mb9 In0))))), ?_⟩⟩)
             refine Aw.shift (Re0 (Sd ⟨(Ic Mb1 (Ic Mb3 (Ic Mb4 (Ic Mb5 (Ic Mb8 In0))))), ?_⟩))
             have fO := ba.mono cS
             obtain ⟨zY, ev, lL⟩ := RowR.at fO f
             obtain ⟨BO, rfl, xC⟩ := lL
             have yK := FV ev
             refine FP 14 (by kernel_rfl) (Jyq Z (F6 (T := (Ty.sl FU)) Mb6 fO ev (FSq f).1 Z Z Z Z Z) ⟨(Ic Mb1 (Ic Mb3 (Ic Mb4 (Ic Mb5 (Ic Mb8 In0))))), ?_⟩)
             refine Ao 15 Z ?_
             refine FX (T := (Ty.sl FU)) (vs := [(sv br)]) (r' := [(sv br)]) (l' := (Ge p0.ops (wI ((p0.ops.length : Int) - 1)) g)) Z Z Z Z Z (.there (.there (.there (.there (.there (.there .here)))))) fO ev Z Z Z (RowR.set (wI ((p0.ops.length : Int) - 1)) fO ⟨br, Z, oq⟩) (fun iQ => ⟨(Ic Mb1 (Ic Mb3 (Ic Mb4 (Ic Mb5 (Ic Mb8 In0))))), ?_⟩)
             have hse := FY e (wI ((p0.ops.length : Int) - 1)).toNat (sv br)
             rw [hse] at iQ ⊢
             clear hse
             have ws := F3 ev (v := (sv br))
             refine Ad<|Pu8<|Pu8<|Pu8<|Pu8<|Pu8<|Pu7<|Pu7<|Pu7<|Re8<|?_
             have or := fN.mono cS
             have os := ((s.mono a).mono R).mono cS
             have ot := ((t.mono a).mono R).mono cS
             have ou := ((w.mono a).mono R).mono cS
             exact Sd ⟨_, by exact R3, g3, k, m, n, j, p0.cnfg.capacities, u, i, p0.cnfg.starts, r, p0.cnfg.threads, c, (Ge p0.ops (wI ((p0.ops.length : Int) - 1)) g), (e.set (wI ((p0.ops.length : Int) - 1)).toNat (sv br)), h, p0.picks, p, Z, Z, H, or, os, ot, iQ, ou⟩
            ·refine id (Jy Z ?_)
             have iR : RowR FU ei [(FM b av aw)] [b] := RowR.cons ⟨av, aw, Z, fL, fM⟩ (RowR.nil)
             refine Gl (T := FU) (rows := [(FM b av aw)]) (l := [b]) Z Z Z iR Z Z Z Z Z Z Z Z (fun BP => ⟨(Ic Mb2 (Ic Mb4 (Ic Mb5 (Ic Mb6 (Ic Mb9 In0))))), ?_⟩)
             refine FP 9 (by kernel_rfl) (Jyq Z (FI (v := (sv k5)) Z Z Z (Gj (T := (Ty.sl FU)) Mb7 ba eu Z Z)) ⟨(Ic Mb2 (Ic Mb4 (Ic Mb5 (Ic Mb6 (Ic Mb9 In0))))), ?_⟩)
             refine Ao 13 Z ?_
             refine F7 (T := FU) (bytes := 88) (q := (wI ((p0.ops.length : Int) - 1)).toNat) Z Z Z kx Mb8 kS (SrcT.row Mb0 iR Z) x Z Z Z Z Z Z Z Z (fun bs vj cT ov => ⟨_, (.there (.there (.there (.there (.there (.there (.there (.there .here)))))))), ⟨(Ic Mb2 (Ic Mb4 (Ic Mb5 (Ic Mb6 (Ic Mb9 In0))))), ?_⟩⟩)
             refine Aw.shift (Re0 (Sd ⟨(Ic Mb1 (Ic Mb3 (Ic Mb4 (Ic Mb5 (Ic Mb8 In0))))), ?_⟩))
             have fP := ba.mono cT
             obtain ⟨zZ, ew, lM⟩ := RowR.at fP f
             obtain ⟨BQ, rfl, xD⟩ := lM
             have yL := FV ew
             refine FP 14 (by kernel_rfl) (Jyq Z (F6 (T := (Ty.sl FU)) Mb6 fP ew (FSq f).1 Z Z Z Z Z) ⟨(Ic Mb1 (Ic Mb3 (Ic Mb4 (Ic Mb5 (Ic Mb8 In0))))), ?_⟩)
             refine Ao 15 Z ?_
             refine FX (T := (Ty.sl FU)) (vs := [(sv bs)]) (r' := [(sv bs)]) (l' := (Ge p0.ops (wI ((p0.ops.length : Int) - 1)) g)) Z Z Z Z Z (.there (.there (.there (.there (.there (.there .here)))))) fP ew Z Z Z (RowR.set (wI ((p0.ops.length : Int) - 1)) fP ⟨bs, Z, ov⟩) (fun iS => ⟨(Ic Mb1 (Ic Mb3 (Ic Mb4 (Ic Mb5 (Ic Mb8 In0))))), ?_⟩)
             have hse := FY e (wI ((p0.ops.length : Int) - 1)).toNat (sv bs)
             rw [hse] at iS ⊢
             clear hse
             have wt := F3 ew (v := (sv bs))
             refine Ad<|Pu8<|Pu8<|Pu8<|Pu8<|Pu8<|Pu7<|Pu7<|Pu7<|Re8<|?_
             have ow := fN.mono cT
             have ox := ((s.mono a).mono R).mono cT
             have oy := ((t.mono a).mono R).mono cT
             have oz := ((w.mono a).mono R).mono cT
             exact Sd ⟨_, by exact R3, g3, k, m, n, j, p0.cnfg.capacities, u, i, p0.cnfg.starts, r, p0.cnfg.threads, c, (Ge p0.ops (wI ((p0.ops.length : Int) - 1)) g), (e.set (wI ((p0.ops.length : Int) - 1)).toNat (sv bs)), h, p0.picks, p, Z, Z, H, ow, ox, oy, iS, oz⟩
           ·refine id (Jy Z ?_)
            have iT : RowR FU ei [(FM b av aw)] [b] := RowR.cons ⟨av, aw, Z, fL, fM⟩ (RowR.nil)
            refine Gl (T := FU) (rows := [(FM b av aw)]) (l := [b]) Z Z Z iT Z Z Z Z Z Z Z Z (fun BR => ⟨(Ic Mb2 (Ic Mb4 (Ic Mb5 (Ic Mb6 (Ic Mb9 In0))))), ?_⟩)
            have fQ := y.mono R
            obtain ⟨z0, hk, lN⟩ := RowR.at fQ z
            obtain ⟨uR, rfl, oA⟩ := lN
            have um := FV hk
            refine FP 8 (by kernel_rfl) (Jyq Z (F6 (T := (Ty.sl FU)) Mb7 fQ hk (FSq z).1 Z Z Z Z Z) ⟨(Ic Mb2 (Ic Mb4 (Ic Mb5 (Ic Mb6 (Ic Mb9 In0))))), ?_⟩)
            refine FP 9 (by kernel_rfl) (Jyq Z (FI (v := (sv uR)) Z Z Z (Gj (T := (Ty.sl FU)) Mb7 fQ hk Z Z)) ⟨(Ic Mb2 (Ic Mb4 (Ic Mb5 (Ic Mb6 (Ic Mb9 In0))))), ?_⟩)
            refine Ao 13 Z ?_
            refine F7 (T := FU) (bytes := 88) (q := (wI ((p0.ops.length : Int) - 1)).toNat) Z Z Z oA Mb8 um (SrcT.row Mb0 iT Z) x Z Z Z Z Z Z Z Z (fun bt vk cU oB => ⟨_, (.there (.there (.there (.there (.there (.there (.there (.there .here)))))))), ⟨(Ic Mb2 (Ic Mb4 (Ic Mb5 (Ic Mb6 (Ic Mb9 In0))))), ?_⟩⟩)
            refine Aw.shift (Re0 (Sd ⟨(Ic Mb1 (Ic Mb3 (Ic Mb4 (Ic Mb5 (Ic Mb8 In0))))), ?_⟩))
            have fR := fQ.mono cU
            obtain ⟨z1, ex, lO⟩ := RowR.at fR f
            obtain ⟨BS, rfl, xE⟩ := lO
            have yM := FV ex
            refine FP 14 (by kernel_rfl) (Jyq Z (F6 (T := (Ty.sl FU)) Mb6 fR ex (FSq f).1 Z Z Z Z Z) ⟨(Ic Mb1 (Ic Mb3 (Ic Mb4 (Ic Mb5 (Ic Mb8 In0))))), ?_⟩)
            refine Ao 15 Z ?_
            refine FX (T := (Ty.sl FU)) (vs := [(sv bt)]) (r' := [(sv bt)]) (l' := (Ge p0.ops (wI ((p0.ops.length : Int) - 1)) g)) Z Z Z Z Z (.there (.there (.there (.there (.there (.there .here)))))) fR ex Z Z Z (RowR.set (wI ((p0.ops.length : Int) - 1)) fR ⟨bt, Z, oB⟩) (fun iU => ⟨(Ic Mb1 (Ic Mb3 (Ic Mb4 (Ic Mb5 (Ic Mb8 In0))))), ?_⟩)
            have hse := FY e (wI ((p0.ops.length : Int) - 1)).toNat (sv bt)
            rw [hse] at iU ⊢
            clear hse
            have wu := F3 ex (v := (sv bt))
            refine Ad<|Pu8<|Pu8<|Pu8<|Pu8<|Pu8<|Pu7<|Pu7<|Pu7<|Re8<|?_
            have oC := fN.mono cU
            have oD := ((s.mono a).mono R).mono cU
            have oE := ((t.mono a).mono R).mono cU
            have oF := ((w.mono a).mono R).mono cU
            exact Sd ⟨_, by exact R3, g3, k, m, n, j, p0.cnfg.capacities, u, i, p0.cnfg.starts, r, p0.cnfg.threads, c, (Ge p0.ops (wI ((p0.ops.length : Int) - 1)) g), (e.set (wI ((p0.ops.length : Int) - 1)).toNat (sv bt)), h, p0.picks, p, Z, Z, H, oC, oD, oE, iU, oF⟩
          ·refine id (Jy Z ?_)
           have iV : RowR FU ei [(FM b av aw)] [b] := RowR.cons ⟨av, aw, Z, fL, fM⟩ (RowR.nil)
           refine Gl (T := FU) (rows := [(FM b av aw)]) (l := [b]) Z Z Z iV Z Z Z Z Z Z Z Z (fun BT => ⟨(Ic Mb2 (Ic Mb4 (Ic Mb5 (Ic Mb6 (Ic Mb9 In0))))), ?_⟩)
           refine FP 5 (by kernel_rfl) (Jyq Z (FI (v := (sv c)) Z Z Z (Rb3 Z)) ⟨(Ic Mb2 (Ic Mb4 (Ic Mb5 (Ic Mb6 (Ic Mb9 In0))))), ?_⟩)
           have fS := y.mono R
           obtain ⟨z2, hl, lP⟩ := RowR.at fS z
           obtain ⟨uS, rfl, oG⟩ := lP
           have un := FV hl
           refine FP 8 (by kernel_rfl) (Jyq Z (F6 (T := (Ty.sl FU)) Mb7 fS hl (FSq z).1 Z Z Z Z Z) ⟨(Ic Mb2 (Ic Mb4 (Ic Mb5 (Ic Mb6 (Ic Mb9 In0))))), ?_⟩)
           refine FP 9 (by kernel_rfl) (Jyq Z (FI (v := (sv uS)) Z Z Z (Gj (T := (Ty.sl FU)) Mb7 fS hl Z Z)) ⟨(Ic Mb2 (Ic Mb4 (Ic Mb5 (Ic Mb6 (Ic Mb9 In0))))), ?_⟩)
           refine Ao 13 Z ?_
           refine F7 (T := FU) (bytes := 88) (q := (wI ((p0.ops.length : Int) - 1)).toNat) Z Z Z oG Mb8 un (SrcT.row Mb0 iV Z) x Z Z Z Z Z Z Z Z (fun bu vl cV oH => ⟨_, (.there (.there (.there (.there (.there (.there (.there (.there .here)))))))), ⟨(Ic Mb2 (Ic Mb4 (Ic Mb5 (Ic Mb6 (Ic Mb9 In0))))), ?_⟩⟩)
           refine Aw.shift (Re0 (Sd ⟨(Ic Mb1 (Ic Mb3 (Ic Mb4 (Ic Mb5 (Ic Mb8 In0))))), ?_⟩))
           have fT := fS.mono cV
           obtain ⟨z3, ey, lQ⟩ := RowR.at fT f
           obtain ⟨BU, rfl, xF⟩ := lQ
           have yN := FV ey
           refine FP 14 (by kernel_rfl) (Jyq Z (F6 (T := (Ty.sl FU)) Mb6 fT ey (FSq f).1 Z Z Z Z Z) ⟨(Ic Mb1 (Ic Mb3 (Ic Mb4 (Ic Mb5 (Ic Mb8 In0))))), ?_⟩)
           refine Ao 15 Z ?_
           refine FX (T := (Ty.sl FU)) (vs := [(sv bu)]) (r' := [(sv bu)]) (l' := (Ge p0.ops (wI ((p0.ops.length : Int) - 1)) g)) Z Z Z Z Z (.there (.there (.there (.there (.there (.there .here)))))) fT ey Z Z Z (RowR.set (wI ((p0.ops.length : Int) - 1)) fT ⟨bu, Z, oH⟩) (fun iW => ⟨(Ic Mb1 (Ic Mb3 (Ic Mb4 (Ic Mb5 (Ic Mb8 In0))))), ?_⟩)
           have hse := FY e (wI ((p0.ops.length : Int) - 1)).toNat (sv bu)
           rw [hse] at iW ⊢
           clear hse
           have wv := F3 ey (v := (sv bu))
           refine Ad<|Pu8<|Pu8<|Pu8<|Pu8<|Pu8<|Pu7<|Pu7<|Pu7<|Re8<|?_
           have oI := fN.mono cV
           have oJ := ((s.mono a).mono R).mono cV
           have oK := ((t.mono a).mono R).mono cV
           have oL := ((w.mono a).mono R).mono cV
           exact Sd ⟨_, by exact R3, g3, k, m, n, j, p0.cnfg.capacities, u, i, p0.cnfg.starts, r, p0.cnfg.threads, c, (Ge p0.ops (wI ((p0.ops.length : Int) - 1)) g), (e.set (wI ((p0.ops.length : Int) - 1)).toNat (sv bu)), h, p0.picks, p, Z, Z, H, oI, oJ, oK, iW, oL⟩
        ·refine id (Jyq Z (FI (v := (sv c)) Z Z Z (Rb2 Z)) ⟨(Ic Mb1 (Ic Mb3 (Ic Mb4 (Ic Mb5 (Ic Mb8 In0))))), ?_⟩)
         refine GG 1 8 11 (by kernel_rfl) ?_ ?_ ?_
         ·refine id (Jyq Z (FI (v := (sv c)) Z Z Z (Rb2 Z)) ⟨(Ic Mb1 (Ic Mb3 (Ic Mb4 (Ic Mb5 (Ic Mb8 In0))))), ?_⟩)
          refine Gf 8 11 (by kernel_rfl) ?_ ?_
          ·obtain ⟨z4, d1, lR⟩ := RowR.at y z
           obtain ⟨h1, rfl, hz⟩ := lR
           have hJ := FV d1
           refine id (Jyq Z (F6 (T := (Ty.sl FU)) Mb6 y d1 (FSq z).1 Z Z Z Z Z) ⟨(Ic Mb1 (Ic Mb3 (Ic Mb4 (Ic Mb5 (Ic Mb8 In0))))), ?_⟩)
           refine Gf 9 11 (by kernel_rfl) ?_ ?_
           ·refine id (Jyq Z (FI (v := (sv h1)) Z Z Z (Gj (T := (Ty.sl FU)) Mb6 y d1 Z Z)) ⟨(Ic Mb1 (Ic Mb3 (Ic Mb4 (Ic Mb5 (Ic Mb8 In0))))), ?_⟩)
            refine Ao 11 Z ?_
            refine Ek Tryz.call61 Z (Hh E (FO.mk F P false) I b k m n al _ _ O) ?_
            rintro _ lq _ cW ⟨h2, h3, uT, rfl, rfl, oM, oN, oO⟩
            refine ⟨(Ic Mb1 (Ic Mb3 (Ic Mb4 (Ic Mb5 (Ic Mb8 In0))))), ?_⟩
            refine Ao 12 Z ?_
            have iX : RowR FU lq [(FM b h2 h3)] [b] := RowR.cons ⟨h2, h3, Z, oM, oN⟩ (RowR.nil)
            refine Gl (T := FU) (rows := [(FM b h2 h3)]) (l := [b]) Z Z Z iX Z Z Z Z Z Z Z Z (fun BV => ⟨(Ic Mb2 (Ic Mb4 (Ic Mb5 (Ic Mb6 (Ic Mb9 In0))))), ?_⟩)
            refine Ao 13 Z ?_
            have oQ := hz.mono cW
            refine F7 (T := FU) (bytes := 88) (q := (wI ((p0.ops.length : Int) - 1)).toNat) Z Z Z oQ Mb8 hJ (SrcT.row Mb0 iX Z) x Z Z Z Z Z Z Z Z (fun bv vm cX oP => ⟨_, (.there (.there (.there (.there (.there (.there (.there (.there .here)))))))), ⟨(Ic Mb2 (Ic Mb4 (Ic Mb5 (Ic Mb6 (Ic Mb9 In0))))), ?_⟩⟩)
            refine Aw.shift (Re0 (Sd ⟨(Ic Mb1 (Ic Mb3 (Ic Mb4 (Ic Mb5 (Ic Mb8 In0))))), ?_⟩))
            have fU := (y.mono cW).mono cX
            obtain ⟨z5, ez, lS⟩ := RowR.at fU f
            obtain ⟨BW, rfl, xG⟩ := lS
            have yO := FV ez
            refine FP 14 (by kernel_rfl) (Jyq Z (F6 (T := (Ty.sl FU)) Mb6 fU ez (FSq f).1 Z Z Z Z Z) ⟨(Ic Mb1 (Ic Mb3 (Ic Mb4 (Ic Mb5 (Ic Mb8 In0))))), ?_⟩)
            refine Ao 15 Z ?_
            refine FX (T := (Ty.sl FU)) (vs := [(sv bv)]) (r' := [(sv bv)]) (l' := (Ge p0.ops (wI ((p0.ops.length : Int) - 1)) g)) Z Z Z Z Z (.there (.there (.there (.there (.there (.there .here)))))) fU ez Z Z Z (RowR.set (wI ((p0.ops.length : Int) - 1)) fU ⟨bv, Z, oP⟩) (fun iY => ⟨(Ic Mb1 (Ic Mb3 (Ic Mb4 (Ic Mb5 (Ic Mb8 In0))))), ?_⟩)
            have hse := FY e (wI ((p0.ops.length : Int) - 1)).toNat (sv bv)
            rw [hse] at iY ⊢
            clear hse
            have ww := F3 ez (v := (sv bv))
            refine Ad<|Pu8<|Pu8<|Pu8<|Pu8<|Pu8<|Pu7<|Pu7<|Pu7<|Re8<|?_
            have oR := oO.mono cX
            have oS := ((s.mono a).mono cW).mono cX
            have oT := ((t.mono a).mono cW).mono cX
            have oU := ((w.mono a).mono cW).mono cX
            exact Sd ⟨_, by exact R3, uT, k, m, n, j, p0.cnfg.capacities, u, i, p0.cnfg.starts, r, p0.cnfg.threads, c, (Ge p0.ops (wI ((p0.ops.length : Int) - 1)) g), (e.set (wI ((p0.ops.length : Int) - 1)).toNat (sv bv)), h, p0.picks, p, Z, Z, H, oR, oS, oT, iY, oU⟩
           ·refine id (Jy Z ?_)
            refine Ek Tryz.call61 Z (Hh E (FO.mk F P false) I b k m n al _ _ O) ?_
            rintro _ il _ aD ⟨bw, bx, k6, rfl, rfl, ky, kz, kA⟩
            refine ⟨(Ic Mb1 (Ic Mb3 (Ic Mb4 (Ic Mb5 (Ic Mb8 In0))))), ?_⟩
            refine Gf 9 12 (by kernel_rfl) ?_ ?_
            ·have kB := y.mono aD
             refine id (Jyq Z (FI (v := (sv h1)) Z Z Z (Gj (T := (Ty.sl FU)) Mb6 kB d1 Z Z)) ⟨(Ic Mb1 (Ic Mb3 (Ic Mb4 (Ic Mb5 (Ic Mb8 In0))))), ?_⟩)
             refine Ao 12 Z ?_
             have iZ : RowR FU il [(FM b bw bx)] [b] := RowR.cons ⟨bw, bx, Z, ky, kz⟩ (RowR.nil)
             refine Gl (T := FU) (rows := [(FM b bw bx)]) (l := [b]) Z Z Z iZ Z Z Z Z Z Z Z Z (fun BX => ⟨(Ic Mb2 (Ic Mb4 (Ic Mb5 (Ic Mb6 (Ic Mb9 In0))))), ?_⟩)
             refine Ao 13 Z ?_
             have oW := hz.mono aD
             refine F7 (T := FU) (bytes := 88) (q := (wI ((p0.ops.length : Int) - 1)).toNat) Z Z Z oW Mb8 hJ (SrcT.row Mb0 iZ Z) x Z Z Z Z Z Z Z Z (fun bz vn cY oV => ⟨_, (.there (.there (.there (.there (.there (.there (.there (.there .here)))))))), ⟨(Ic Mb2 (Ic Mb4 (Ic Mb5 (Ic Mb6 (Ic Mb9 In0))))), ?_⟩⟩)
             refine Aw.shift (Re0 (Sd ⟨(Ic Mb1 (Ic Mb3 (Ic Mb4 (Ic Mb5 (Ic Mb8 In0))))), ?_⟩))
             have fV := kB.mono cY
             obtain ⟨z6, eA, lT⟩ := RowR.at fV f
             obtain ⟨BY, rfl, xH⟩ := lT
             have yP := FV eA
             refine FP 14 (by kernel_rfl) (Jyq Z (F6 (T := (Ty.sl FU)) Mb6 fV eA (FSq f).1 Z Z Z Z Z) ⟨(Ic Mb1 (Ic Mb3 (Ic Mb4 (Ic Mb5 (Ic Mb8 In0))))), ?_⟩)
             refine Ao 15 Z ?_
             refine FX (T := (Ty.sl FU)) (vs := [(sv bz)]) (r' := [(sv bz)]) (l' := (Ge p0.ops (wI ((p0.ops.length : Int) - 1)) g)) Z Z Z Z Z (.there (.there (.there (.there (.there (.there .here)))))) fV eA Z Z Z (RowR.set (wI ((p0.ops.length : Int) - 1)) fV ⟨bz, Z, oV⟩) (fun i0 => ⟨(Ic Mb1 (Ic Mb3 (Ic Mb4 (Ic Mb5 (Ic Mb8 In0))))), ?_⟩)
             have hse := FY e (wI ((p0.ops.length : Int) - 1)).toNat (sv bz)
             rw [hse] at i0 ⊢
             clear hse
             have wx := F3 eA (v := (sv bz))
             refine Ad<|Pu8<|Pu8<|Pu8<|Pu8<|Pu8<|Pu7<|Pu7<|Pu7<|Re8<|?_
             have oX := kA.mono cY
             have oY := ((s.mono a).mono aD).mono cY
             have oZ := ((t.mono a).mono aD).mono cY
             have o0 := ((w.mono a).mono aD).mono cY
             exact Sd ⟨_, by exact R3, k6, k, m, n, j, p0.cnfg.capacities, u, i, p0.cnfg.starts, r, p0.cnfg.threads, c, (Ge p0.ops (wI ((p0.ops.length : Int) - 1)) g), (e.set (wI ((p0.ops.length : Int) - 1)).toNat (sv bz)), h, p0.picks, p, Z, Z, H, oX, oY, oZ, i0, o0⟩
            ·refine id (Jy Z ?_)
             have i1 : RowR FU il [(FM b bw bx)] [b] := RowR.cons ⟨bw, bx, Z, ky, kz⟩ (RowR.nil)
             refine Gl (T := FU) (rows := [(FM b bw bx)]) (l := [b]) Z Z Z i1 Z Z Z Z Z Z Z Z (fun BZ => ⟨(Ic Mb2 (Ic Mb4 (Ic Mb5 (Ic Mb6 (Ic Mb9 In0))))), ?_⟩)
             have kC := y.mono aD
             refine FP 9 (by kernel_rfl) (Jyq Z (FI (v := (sv h1)) Z Z Z (Gj (T := (Ty.sl FU)) Mb7 kC d1 Z Z)) ⟨(Ic Mb2 (Ic Mb4 (Ic Mb5 (Ic Mb6 (Ic Mb9 In0))))), ?_⟩)
             refine Ao 13 Z ?_
             have o2 := hz.mono aD
             refine F7 (T := FU) (bytes := 88) (q := (wI ((p0.ops.length : Int) - 1)).toNat) Z Z Z o2 Mb8 hJ (SrcT.row Mb0 i1 Z) x Z Z Z Z Z Z Z Z (fun bA vo cZ o1 => ⟨_, (.there (.there (.there (.there (.there (.there (.there (.there .here)))))))), ⟨(Ic Mb2 (Ic Mb4 (Ic Mb5 (Ic Mb6 (Ic Mb9 In0))))), ?_⟩⟩)
             refine Aw.shift (Re0 (Sd ⟨(Ic Mb1 (Ic Mb3 (Ic Mb4 (Ic Mb5 (Ic Mb8 In0))))), ?_⟩))
             have fW := kC.mono cZ
             obtain ⟨z7, eB, lU⟩ := RowR.at fW f
             obtain ⟨B0, rfl, xI⟩ := lU
             have yQ := FV eB
             refine FP 14 (by kernel_rfl) (Jyq Z (F6 (T := (Ty.sl FU)) Mb6 fW eB (FSq f).1 Z Z Z Z Z) ⟨(Ic Mb1 (Ic Mb3 (Ic Mb4 (Ic Mb5 (Ic Mb8 In0))))), ?_⟩)
             refine Ao 15 Z ?_
             refine FX (T := (Ty.sl FU)) (vs := [(sv bA)]) (r' := [(sv bA)]) (l' := (Ge p0.ops (wI ((p0.ops.length : Int) - 1)) g)) Z Z Z Z Z (.there (.there (.there (.there (.there (.there .here)))))) fW eB Z Z Z (RowR.set (wI ((p0.ops.length : Int) - 1)) fW ⟨bA, Z, o1⟩) (fun i2 => ⟨(Ic Mb1 (Ic Mb3 (Ic Mb4 (Ic Mb5 (Ic Mb8 In0))))), ?_⟩)
             have hse := FY e (wI ((p0.ops.length : Int) - 1)).toNat (sv bA)
             rw [hse] at i2 ⊢
             clear hse
             have wy := F3 eB (v := (sv bA))
             refine Ad<|Pu8<|Pu8<|Pu8<|Pu8<|Pu8<|Pu7<|Pu7<|Pu7<|Re8<|?_
             have o3 := kA.mono cZ
             have o4 := ((s.mono a).mono aD).mono cZ
             have o5 := ((t.mono a).mono aD).mono cZ
             have o6 := ((w.mono a).mono aD).mono cZ
             exact Sd ⟨_, by exact R3, k6, k, m, n, j, p0.cnfg.capacities, u, i, p0.cnfg.starts, r, p0.cnfg.threads, c, (Ge p0.ops (wI ((p0.ops.length : Int) - 1)) g), (e.set (wI ((p0.ops.length : Int) - 1)).toNat (sv bA)), h, p0.picks, p, Z, Z, H, o3, o4, o5, i2, o6⟩
          ·refine id (Jy Z ?_)
           refine Ek Tryz.call61 Z (Hh E (FO.mk F P false) I b k m n al _ _ O) ?_
           rintro _ g6 _ ay ⟨aP, aQ, h4, rfl, rfl, hA, hB, hC⟩
           refine ⟨(Ic Mb1 (Ic Mb3 (Ic Mb4 (Ic Mb5 (Ic Mb8 In0))))), ?_⟩
           refine Gf 8 12 (by kernel_rfl) ?_ ?_
           ·have bb := y.mono ay
            obtain ⟨z8, eC, lV⟩ := RowR.at bb z
            obtain ⟨k7, rfl, kD⟩ := lV
            have kT := FV eC
            refine id (Jyq Z (F6 (T := (Ty.sl FU)) Mb6 bb eC (FSq z).1 Z Z Z Z Z) ⟨(Ic Mb1 (Ic Mb3 (Ic Mb4 (Ic Mb5 (Ic Mb8 In0))))), ?_⟩)
            refine Gf 9 12 (by kernel_rfl) ?_ ?_
            ·refine id (Jyq Z (FI (v := (sv k7)) Z Z Z (Gj (T := (Ty.sl FU)) Mb6 bb eC Z Z)) ⟨(Ic Mb1 (Ic Mb3 (Ic Mb4 (Ic Mb5 (Ic Mb8 In0))))), ?_⟩)
             refine Ao 12 Z ?_
             have i3 : RowR FU g6 [(FM b aP aQ)] [b] := RowR.cons ⟨aP, aQ, Z, hA, hB⟩ (RowR.nil)
             refine Gl (T := FU) (rows := [(FM b aP aQ)]) (l := [b]) Z Z Z i3 Z Z Z Z Z Z Z Z (fun B1 => ⟨(Ic Mb2 (Ic Mb4 (Ic Mb5 (Ic Mb6 (Ic Mb9 In0))))), ?_⟩)
             refine Ao 13 Z ?_
             refine F7 (T := FU) (bytes := 88) (q := (wI ((p0.ops.length : Int) - 1)).toNat) Z Z Z kD Mb8 kT (SrcT.row Mb0 i3 Z) x Z Z Z Z Z Z Z Z (fun bB vp c0 o7 => ⟨_, (.there (.there (.there (.there (.there (.there (.there (.there .here)))))))), ⟨(Ic Mb2 (Ic Mb4 (Ic Mb5 (Ic Mb6 (Ic Mb9 In0))))), ?_⟩⟩)
             refine Aw.shift (Re0 (Sd ⟨(Ic Mb1 (Ic Mb3 (Ic Mb4 (Ic Mb5 (Ic Mb8 In0))))), ?_⟩))
             have fX := bb.mono c0
             obtain ⟨z9, eD, lW⟩ := RowR.at fX f
             obtain ⟨B2, rfl, xJ⟩ := lW
             have yR := FV eD
             refine FP 14 (by kernel_rfl) (Jyq Z (F6 (T := (Ty.sl FU)) Mb6 fX eD (FSq f).1 Z Z Z Z Z) ⟨(Ic Mb1 (Ic Mb3 (Ic Mb4 (Ic Mb5 (Ic Mb8 In0))))), ?_⟩)
             refine Ao 15 Z ?_
             refine FX (T := (Ty.sl FU)) (vs := [(sv bB)]) (r' := [(sv bB)]) (l' := (Ge p0.ops (wI ((p0.ops.length : Int) - 1)) g)) Z Z Z Z Z (.there (.there (.there (.there (.there (.there .here)))))) fX eD Z Z Z (RowR.set (wI ((p0.ops.length : Int) - 1)) fX ⟨bB, Z, o7⟩) (fun i4 => ⟨(Ic Mb1 (Ic Mb3 (Ic Mb4 (Ic Mb5 (Ic Mb8 In0))))), ?_⟩)
             have hse := FY e (wI ((p0.ops.length : Int) - 1)).toNat (sv bB)
             rw [hse] at i4 ⊢
             clear hse
             have wz := F3 eD (v := (sv bB))
             refine Ad<|Pu8<|Pu8<|Pu8<|Pu8<|Pu8<|Pu7<|Pu7<|Pu7<|Re8<|?_
             have o8 := hC.mono c0
             have o9 := ((s.mono a).mono ay).mono c0
             have pa := ((t.mono a).mono ay).mono c0
             have pb := ((w.mono a).mono ay).mono c0
             exact Sd ⟨_, by exact R3, h4, k, m, n, j, p0.cnfg.capacities, u, i, p0.cnfg.starts, r, p0.cnfg.threads, c, (Ge p0.ops (wI ((p0.ops.length : Int) - 1)) g), (e.set (wI ((p0.ops.length : Int) - 1)).toNat (sv bB)), h, p0.picks, p, Z, Z, H, o8, o9, pa, i4, pb⟩
            ·refine id (Jy Z ?_)
             have i5 : RowR FU g6 [(FM b aP aQ)] [b] := RowR.cons ⟨aP, aQ, Z, hA, hB⟩ (RowR.nil)
             refine Gl (T := FU) (rows := [(FM b aP aQ)]) (l := [b]) Z Z Z i5 Z Z Z Z Z Z Z Z (fun B3 => ⟨(Ic Mb2 (Ic Mb4 (Ic Mb5 (Ic Mb6 (Ic Mb9 In0))))), ?_⟩)
             refine FP 9 (by kernel_rfl) (Jyq Z (FI (v := (sv k7)) Z Z Z (Gj (T := (Ty.sl FU)) Mb7 bb eC Z Z)) ⟨(Ic Mb2 (Ic Mb4 (Ic Mb5 (Ic Mb6 (Ic Mb9 In0))))), ?_⟩)
             refine Ao 13 Z ?_
             refine F7 (T := FU) (bytes := 88) (q := (wI ((p0.ops.length : Int) - 1)).toNat) Z Z Z kD Mb8 kT (SrcT.row Mb0 i5 Z) x Z Z Z Z Z Z Z Z (fun bC vq c1 pc => ⟨_, (.there (.there (.there (.there (.there (.there (.there (.there .here)))))))), ⟨(Ic Mb2 (Ic Mb4 (Ic Mb5 (Ic Mb6 (Ic Mb9 In0))))), ?_⟩⟩)
             refine Aw.shift (Re0 (Sd ⟨(Ic Mb1 (Ic Mb3 (Ic Mb4 (Ic Mb5 (Ic Mb8 In0))))), ?_⟩))
             have fY := bb.mono c1
             obtain ⟨Aa, eE, lX⟩ := RowR.at fY f
             obtain ⟨B4, rfl, xK⟩ := lX
             have yS := FV eE
             refine FP 14 (by kernel_rfl) (Jyq Z (F6 (T := (Ty.sl FU)) Mb6 fY eE (FSq f).1 Z Z Z Z Z) ⟨(Ic Mb1 (Ic Mb3 (Ic Mb4 (Ic Mb5 (Ic Mb8 In0))))), ?_⟩)
             refine Ao 15 Z ?_
             refine FX (T := (Ty.sl FU)) (vs := [(sv bC)]) (r' := [(sv bC)]) (l' := (Ge p0.ops (wI ((p0.ops.length : Int) - 1)) g)) Z Z Z Z Z (.there (.there (.there (.there (.there (.there .here)))))) fY eE Z Z Z (RowR.set (wI ((p0.ops.length : Int) - 1)) fY ⟨bC, Z, pc⟩) (fun i6 => ⟨(Ic Mb1 (Ic Mb3 (Ic Mb4 (Ic Mb5 (Ic Mb8 In0))))), ?_⟩)
             have hse := FY e (wI ((p0.ops.length : Int) - 1)).toNat (sv bC)
             rw [hse] at i6 ⊢
             clear hse
             have wA := F3 eE (v := (sv bC))
             refine Ad<|Pu8<|Pu8<|Pu8<|Pu8<|Pu8<|Pu7<|Pu7<|Pu7<|Re8<|?_
             have pd := hC.mono c1
             have pe := ((s.mono a).mono ay).mono c1
             have pf := ((t.mono a).mono ay).mono c1
             have pg := ((w.mono a).mono ay).mono c1
             exact Sd ⟨_, by exact R3, h4, k, m, n, j, p0.cnfg.capacities, u, i, p0.cnfg.starts, r, p0.cnfg.threads, c, (Ge p0.ops (wI ((p0.ops.length : Int) - 1)) g), (e.set (wI ((p0.ops.length : Int) - 1)).toNat (sv bC)), h, p0.picks, p, Z, Z, H, pd, pe, pf, i6, pg⟩
           ·refine id (Jy Z ?_)
            have i7 : RowR FU g6 [(FM b aP aQ)] [b] := RowR.cons ⟨aP, aQ, Z, hA, hB⟩ (RowR.nil)
            refine Gl (T := FU) (rows := [(FM b aP aQ)]) (l := [b]) Z Z Z i7 Z Z Z Z Z Z Z Z (fun B5 => ⟨(Ic Mb2 (Ic Mb4 (Ic Mb5 (Ic Mb6 (Ic Mb9 In0))))), ?_⟩)
            have fZ := y.mono ay
            obtain ⟨Ab, hm, lY⟩ := RowR.at fZ z
            obtain ⟨uU, rfl, ph⟩ := lY
            have uo := FV hm
            refine FP 8 (by kernel_rfl) (Jyq Z (F6 (T := (Ty.sl FU)) Mb7 fZ hm (FSq z).1 Z Z Z Z Z) ⟨(Ic Mb2 (Ic Mb4 (Ic Mb5 (Ic Mb6 (Ic Mb9 In0))))), ?_⟩)
            refine FP 9 (by kernel_rfl) (Jyq Z (FI (v := (sv uU)) Z Z Z (Gj (T := (Ty.sl FU)) Mb7 fZ hm Z Z)) ⟨(Ic Mb2 (Ic Mb4 (Ic Mb5 (Ic Mb6 (Ic Mb9 In0))))), ?_⟩)
            refine Ao 13 Z ?_
            refine F7 (T := FU) (bytes := 88) (q := (wI ((p0.ops.length : Int) - 1)).toNat) Z Z Z ph Mb8 uo (SrcT.row Mb0 i7 Z) x Z Z Z Z Z Z Z Z (fun bD vr c2 pi => ⟨_, (.there (.there (.there (.there (.there (.there (.there (.there .here)))))))), ⟨(Ic Mb2 (Ic Mb4 (Ic Mb5 (Ic Mb6 (Ic Mb9 In0))))), ?_⟩⟩)
            refine Aw.shift (Re0 (Sd ⟨(Ic Mb1 (Ic Mb3 (Ic Mb4 (Ic Mb5 (Ic Mb8 In0))))), ?_⟩))
            have f0 := fZ.mono c2
            obtain ⟨Ac, eF, lZ⟩ := RowR.at f0 f
            obtain ⟨B6, rfl, xL⟩ := lZ
            have yT := FV eF
            refine FP 14 (by kernel_rfl) (Jyq Z (F6 (T := (Ty.sl FU)) Mb6 f0 eF (FSq f).1 Z Z Z Z Z) ⟨(Ic Mb1 (Ic Mb3 (Ic Mb4 (Ic Mb5 (Ic Mb8 In0))))), ?_⟩)
            refine Ao 15 Z ?_
            refine FX (T := (Ty.sl FU)) (vs := [(sv bD)]) (r' := [(sv bD)]) (l' := (Ge p0.ops (wI ((p0.ops.length : Int) - 1)) g)) Z Z Z Z Z (.there (.there (.there (.there (.there (.there .here)))))) f0 eF Z Z Z (RowR.set (wI ((p0.ops.length : Int) - 1)) f0 ⟨bD, Z, pi⟩) (fun i8 => ⟨(Ic Mb1 (Ic Mb3 (Ic Mb4 (Ic Mb5 (Ic Mb8 In0))))), ?_⟩)
            have hse := FY e (wI ((p0.ops.length : Int) - 1)).toNat (sv bD)
            rw [hse] at i8 ⊢
            clear hse
            have wB := F3 eF (v := (sv bD))
            refine Ad<|Pu8<|Pu8<|Pu8<|Pu8<|Pu8<|Pu7<|Pu7<|Pu7<|Re8<|?_
            have pj := hC.mono c2
            have pk := ((s.mono a).mono ay).mono c2
            have pl := ((t.mono a).mono ay).mono c2
            have pm := ((w.mono a).mono ay).mono c2
            exact Sd ⟨_, by exact R3, h4, k, m, n, j, p0.cnfg.capacities, u, i, p0.cnfg.starts, r, p0.cnfg.threads, c, (Ge p0.ops (wI ((p0.ops.length : Int) - 1)) g), (e.set (wI ((p0.ops.length : Int) - 1)).toNat (sv bD)), h, p0.picks, p, Z, Z, H, pj, pk, pl, i8, pm⟩
         ·obtain ⟨Ae, az, l0⟩ := RowR.at y z
          obtain ⟨aR, rfl, U⟩ := l0
          have Y := FV az
          refine id (Jyq Z (F6 (T := (Ty.sl FU)) Mb6 y az (FSq z).1 Z Z Z Z Z) ⟨(Ic Mb1 (Ic Mb3 (Ic Mb4 (Ic Mb5 (Ic Mb8 In0))))), ?_⟩)
          refine GG 1 9 11 (by kernel_rfl) ?_ ?_ ?_
          ·refine id (Jyq Z (FI (v := (sv c)) Z Z Z (Rb2 Z)) ⟨(Ic Mb1 (Ic Mb3 (Ic Mb4 (Ic Mb5 (Ic Mb8 In0))))), ?_⟩)
           refine Gf 9 11 (by kernel_rfl) ?_ ?_
           ·refine id (Jyq Z (FI (v := (sv aR)) Z Z Z (Gj (T := (Ty.sl FU)) Mb6 y az Z Z)) ⟨(Ic Mb1 (Ic Mb3 (Ic Mb4 (Ic Mb5 (Ic Mb8 In0))))), ?_⟩)
            refine Ao 11 Z ?_
            refine Ek Tryz.call61 Z (Hh E (FO.mk F P false) I b k m n al _ _ O) ?_
            rintro _ lr _ c3 ⟨h5, h6, uV, rfl, rfl, pn, po, pp⟩
            refine ⟨(Ic Mb1 (Ic Mb3 (Ic Mb4 (Ic Mb5 (Ic Mb8 In0))))), ?_⟩
            refine Ao 12 Z ?_
            have i9 : RowR FU lr [(FM b h5 h6)] [b] := RowR.cons ⟨h5, h6, Z, pn, po⟩ (RowR.nil)
            refine Gl (T := FU) (rows := [(FM b h5 h6)]) (l := [b]) Z Z Z i9 Z Z Z Z Z Z Z Z (fun B7 => ⟨(Ic Mb2 (Ic Mb4 (Ic Mb5 (Ic Mb6 (Ic Mb9 In0))))), ?_⟩)
            refine Ao 13 Z ?_
            have pr := U.mono c3
            refine F7 (T := FU) (bytes := 88) (q := (wI ((p0.ops.length : Int) - 1)).toNat) Z Z Z pr Mb8 Y (SrcT.row Mb0 i9 Z) x Z Z Z Z Z Z Z Z (fun bE vt c4 pq => ⟨_, (.there (.there (.there (.there (.there (.there (.there (.there .here)))))))), ⟨(Ic Mb2 (Ic Mb4 (Ic Mb5 (Ic Mb6 (Ic Mb9 In0))))), ?_⟩⟩)
            refine Aw.shift (Re0 (Sd ⟨(Ic Mb1 (Ic Mb3 (Ic Mb4 (Ic Mb5 (Ic Mb8 In0))))), ?_⟩))
            have f1 := (y.mono c3).mono c4
            obtain ⟨Af, eG, l1⟩ := RowR.at f1 f
            obtain ⟨B8, rfl, xM⟩ := l1
            have yU := FV eG
            refine FP 14 (by kernel_rfl) (Jyq Z (F6 (T := (Ty.sl FU)) Mb6 f1 eG (FSq f).1 Z Z Z Z Z) ⟨(Ic Mb1 (Ic Mb3 (Ic Mb4 (Ic Mb5 (Ic Mb8 In0))))), ?_⟩)
            refine Ao 15 Z ?_
            refine FX (T := (Ty.sl FU)) (vs := [(sv bE)]) (r' := [(sv bE)]) (l' := (Ge p0.ops (wI ((p0.ops.length : Int) - 1)) g)) Z Z Z Z Z (.there (.there (.there (.there (.there (.there .here)))))) f1 eG Z Z Z (RowR.set (wI ((p0.ops.length : Int) - 1)) f1 ⟨bE, Z, pq⟩) (fun ja => ⟨(Ic Mb1 (Ic Mb3 (Ic Mb4 (Ic Mb5 (Ic Mb8 In0))))), ?_⟩)
            have hse := FY e (wI ((p0.ops.length : Int) - 1)).toNat (sv bE)
            rw [hse] at ja ⊢
            clear hse
            have wC := F3 eG (v := (sv bE))
            refine Ad<|Pu8<|Pu8<|Pu8<|Pu8<|Pu8<|Pu7<|Pu7<|Pu7<|Re8<|?_
            have ps := pp.mono c4
            have pt := ((s.mono a).mono c3).mono c4
            have pu := ((t.mono a).mono c3).mono c4
            have pv := ((w.mono a).mono c3).mono c4
            exact Sd ⟨_, by exact R3, uV, k, m, n, j, p0.cnfg.capacities, u, i, p0.cnfg.starts, r, p0.cnfg.threads, c, (Ge p0.ops (wI ((p0.ops.length : Int) - 1)) g), (e.set (wI ((p0.ops.length : Int) - 1)).toNat (sv bE)), h, p0.picks, p, Z, Z, H, ps, pt, pu, ja, pv⟩
           ·refine id (Jy Z ?_)
            refine Ek Tryz.call61 Z (Hh E (FO.mk F P false) I b k m n al _ _ O) ?_
            rintro _ im _ aE ⟨bF, bG, k8, rfl, rfl, kE, kF, kG⟩
            refine ⟨(Ic Mb1 (Ic Mb3 (Ic Mb4 (Ic Mb5 (Ic Mb8 In0))))), ?_⟩
            refine Gf 9 12 (by kernel_rfl) ?_ ?_
            ·have kH := y.mono aE
             refine id (Jyq Z (FI (v := (sv aR)) Z Z Z (Gj (T := (Ty.sl FU)) Mb6 kH az Z Z)) ⟨(Ic Mb1 (Ic Mb3 (Ic Mb4 (Ic Mb5 (Ic Mb8 In0))))), ?_⟩)
             refine Ao 12 Z ?_
             have jb : RowR FU im [(FM b bF bG)] [b] := RowR.cons ⟨bF, bG, Z, kE, kF⟩ (RowR.nil)
             refine Gl (T := FU) (rows := [(FM b bF bG)]) (l := [b]) Z Z Z jb Z Z Z Z Z Z Z Z (fun B9 => ⟨(Ic Mb2 (Ic Mb4 (Ic Mb5 (Ic Mb6 (Ic Mb9 In0))))), ?_⟩)
             refine Ao 13 Z ?_
             have px := U.mono aE
             refine F7 (T := FU) (bytes := 88) (q := (wI ((p0.ops.length : Int) - 1)).toNat) Z Z Z px Mb8 Y (SrcT.row Mb0 jb Z) x Z Z Z Z Z Z Z Z (fun bH vu c5 pw => ⟨_, (.there (.there (.there (.there (.there (.there (.there (.there .here)))))))), ⟨(Ic Mb2 (Ic Mb4 (Ic Mb5 (Ic Mb6 (Ic Mb9 In0))))), ?_⟩⟩)
             refine Aw.shift (Re0 (Sd ⟨(Ic Mb1 (Ic Mb3 (Ic Mb4 (Ic Mb5 (Ic Mb8 In0))))), ?_⟩))
             have f2 := kH.mono c5
             obtain ⟨Ag, eH, l2⟩ := RowR.at f2 f
             obtain ⟨Ca, rfl, xN⟩ := l2
             have yV := FV eH
             refine FP 14 (by kernel_rfl) (Jyq Z (F6 (T := (Ty.sl FU)) Mb6 f2 eH (FSq f).1 Z Z Z Z Z) ⟨(Ic Mb1 (Ic Mb3 (Ic Mb4 (Ic Mb5 (Ic Mb8 In0))))), ?_⟩)
             refine Ao 15 Z ?_
             refine FX (T := (Ty.sl FU)) (vs := [(sv bH)]) (r' := [(sv bH)]) (l' := (Ge p0.ops (wI ((p0.ops.length : Int) - 1)) g)) Z Z Z Z Z (.there (.there (.there (.there (.there (.there .here)))))) f2 eH Z Z Z (RowR.set (wI ((p0.ops.length : Int) - 1)) f2 ⟨bH, Z, pw⟩) (fun jc => ⟨(Ic Mb1 (Ic Mb3 (Ic Mb4 (Ic Mb5 (Ic Mb8 In0))))), ?_⟩)
             have hse := FY e (wI ((p0.ops.length : Int) - 1)).toNat (sv bH)
             rw [hse] at jc ⊢
             clear hse
             have wD := F3 eH (v := (sv bH))
             refine Ad<|Pu8<|Pu8<|Pu8<|Pu8<|Pu8<|Pu7<|Pu7<|Pu7<|Re8<|?_
             have py := kG.mono c5
             have pz := ((s.mono a).mono aE).mono c5
             have pA := ((t.mono a).mono aE).mono c5
             have pB := ((w.mono a).mono aE).mono c5
             exact Sd ⟨_, by exact R3, k8, k, m, n, j, p0.cnfg.capacities, u, i, p0.cnfg.starts, r, p0.cnfg.threads, c, (Ge p0.ops (wI ((p0.ops.length : Int) - 1)) g), (e.set (wI ((p0.ops.length : Int) - 1)).toNat (sv bH)), h, p0.picks, p, Z, Z, H, py, pz, pA, jc, pB⟩
            ·refine id (Jy Z ?_)
             have jd : RowR FU im [(FM b bF bG)] [b] := RowR.cons ⟨bF, bG, Z, kE, kF⟩ (RowR.nil)
             refine Gl (T := FU) (rows := [(FM b bF bG)]) (l := [b]) Z Z Z jd Z Z Z Z Z Z Z Z (fun Cb => ⟨(Ic Mb2 (Ic Mb4 (Ic Mb5 (Ic Mb6 (Ic Mb9 In0))))), ?_⟩)
             have kI := y.mono aE
             refine FP 9 (by kernel_rfl) (Jyq Z (FI (v := (sv aR)) Z Z Z (Gj (T := (Ty.sl FU)) Mb7 kI az Z Z)) ⟨(Ic Mb2 (Ic Mb4 (Ic Mb5 (Ic Mb6 (Ic Mb9 In0))))), ?_⟩)
             refine Ao 13 Z ?_
             have pD := U.mono aE
             refine F7 (T := FU) (bytes := 88) (q := (wI ((p0.ops.length : Int) - 1)).toNat) Z Z Z pD Mb8 Y (SrcT.row Mb0 jd Z) x Z Z Z Z Z Z Z Z (fun bI vv c6 pC => ⟨_, (.there (.there (.there (.there (.there (.there (.there (.there .here)))))))), ⟨(Ic Mb2 (Ic Mb4 (Ic Mb5 (Ic Mb6 (Ic Mb9 In0))))), ?_⟩⟩)
             refine Aw.shift (Re0 (Sd ⟨(Ic Mb1 (Ic Mb3 (Ic Mb4 (Ic Mb5 (Ic Mb8 In0))))), ?_⟩))
             have f3 := kI.mono c6
             obtain ⟨Ah, eI, l3⟩ := RowR.at f3 f
             obtain ⟨Cc, rfl, xO⟩ := l3
             have yW := FV eI
             refine FP 14 (by kernel_rfl) (Jyq Z (F6 (T := (Ty.sl FU)) Mb6 f3 eI (FSq f).1 Z Z Z Z Z) ⟨(Ic Mb1 (Ic Mb3 (Ic Mb4 (Ic Mb5 (Ic Mb8 In0))))), ?_⟩)
             refine Ao 15 Z ?_
             refine FX (T := (Ty.sl FU)) (vs := [(sv bI)]) (r' := [(sv bI)]) (l' := (Ge p0.ops (wI ((p0.ops.length : Int) - 1)) g)) Z Z Z Z Z (.there (.there (.there (.there (.there (.there .here)))))) f3 eI Z Z Z (RowR.set (wI ((p0.ops.length : Int) - 1)) f3 ⟨bI, Z, pC⟩) (fun je => ⟨(Ic Mb1 (Ic Mb3 (Ic Mb4 (Ic Mb5 (Ic Mb8 In0))))), ?_⟩)
             have hse := FY e (wI ((p0.ops.length : Int) - 1)).toNat (sv bI)
             rw [hse] at je ⊢
             clear hse
             have wE := F3 eI (v := (sv bI))
             refine Ad<|Pu8<|Pu8<|Pu8<|Pu8<|Pu8<|Pu7<|Pu7<|Pu7<|Re8<|?_
             have pE := kG.mono c6
             have pF := ((s.mono a).mono aE).mono c6
             have pG := ((t.mono a).mono aE).mono c6
             have pH := ((w.mono a).mono aE).mono c6
             exact Sd ⟨_, by exact R3, k8, k, m, n, j, p0.cnfg.capacities, u, i, p0.cnfg.starts, r, p0.cnfg.threads, c, (Ge p0.ops (wI ((p0.ops.length : Int) - 1)) g), (e.set (wI ((p0.ops.length : Int) - 1)).toNat (sv bI)), h, p0.picks, p, Z, Z, H, pE, pF, pG, je, pH⟩
          ·refine id (Jyq Z (FI (v := (sv aR)) Z Z Z (Gj (T := (Ty.sl FU)) Mb6 y az Z Z)) ⟨(Ic Mb1 (Ic Mb3 (Ic Mb4 (Ic Mb5 (Ic Mb8 In0))))), ?_⟩)
           refine Gf 1 11 (by kernel_rfl) ?_ ?_
           ·refine id (Jyq Z (FI (v := (sv c)) Z Z Z (Rb2 Z)) ⟨(Ic Mb1 (Ic Mb3 (Ic Mb4 (Ic Mb5 (Ic Mb8 In0))))), ?_⟩)
            refine Ao 11 Z ?_
            refine Ek Tryz.call61 Z (Hh E (FO.mk F P false) I b k m n al _ _ O) ?_
            rintro _ ls _ c7 ⟨h7, h8, uW, rfl, rfl, pI, pJ, pK⟩
            refine ⟨(Ic Mb1 (Ic Mb3 (Ic Mb4 (Ic Mb5 (Ic Mb8 In0))))), ?_⟩
            refine Ao 12 Z ?_
            have jf : RowR FU ls [(FM b h7 h8)] [b] := RowR.cons ⟨h7, h8, Z, pI, pJ⟩ (RowR.nil)
            refine Gl (T := FU) (rows := [(FM b h7 h8)]) (l := [b]) Z Z Z jf Z Z Z Z Z Z Z Z (fun Cd => ⟨(Ic Mb2 (Ic Mb4 (Ic Mb5 (Ic Mb6 (Ic Mb9 In0))))), ?_⟩)
            refine Ao 13 Z ?_
            have pM := U.mono c7
            refine F7 (T := FU) (bytes := 88) (q := (wI ((p0.ops.length : Int) - 1)).toNat) Z Z Z pM Mb8 Y (SrcT.row Mb0 jf Z) x Z Z Z Z Z Z Z Z (fun bJ vw c8 pL => ⟨_, (.there (.there (.there (.there (.there (.there (.there (.there .here)))))))), ⟨(Ic Mb2 (Ic Mb4 (Ic Mb5 (Ic Mb6 (Ic Mb9 In0))))), ?_⟩⟩)
            refine Aw.shift (Re0 (Sd ⟨(Ic Mb1 (Ic Mb3 (Ic Mb4 (Ic Mb5 (Ic Mb8 In0))))), ?_⟩))
            have f4 := (y.mono c7).mono c8
            obtain ⟨Ai, eJ, l4⟩ := RowR.at f4 f
            obtain ⟨Ce, rfl, xP⟩ := l4
            have yX := FV eJ
            refine FP 14 (by kernel_rfl) (Jyq Z (F6 (T := (Ty.sl FU)) Mb6 f4 eJ (FSq f).1 Z Z Z Z Z) ⟨(Ic Mb1 (Ic Mb3 (Ic Mb4 (Ic Mb5 (Ic Mb8 In0))))), ?_⟩)
            refine Ao 15 Z ?_
            refine FX (T := (Ty.sl FU)) (vs := [(sv bJ)]) (r' := [(sv bJ)]) (l' := (Ge p0.ops (wI ((p0.ops.length : Int) - 1)) g)) Z Z Z Z Z (.there (.there (.there (.there (.there (.there .here)))))) f4 eJ Z Z Z (RowR.set (wI ((p0.ops.length : Int) - 1)) f4 ⟨bJ, Z, pL⟩) (fun jg => ⟨(Ic Mb1 (Ic Mb3 (Ic Mb4 (Ic Mb5 (Ic Mb8 In0))))), ?_⟩)
            have hse := FY e (wI ((p0.ops.length : Int) - 1)).toNat (sv bJ)
            rw [hse] at jg ⊢
            clear hse
            have wF := F3 eJ (v := (sv bJ))
            refine Ad<|Pu8<|Pu8<|Pu8<|Pu8<|Pu8<|Pu7<|Pu7<|Pu7<|Re8<|?_
            have pN := pK.mono c8
            have pO := ((s.mono a).mono c7).mono c8
            have pP := ((t.mono a).mono c7).mono c8
            have pQ := ((w.mono a).mono c7).mono c8
            exact Sd ⟨_, by exact R3, uW, k, m, n, j, p0.cnfg.capacities, u, i, p0.cnfg.starts, r, p0.cnfg.threads, c, (Ge p0.ops (wI ((p0.ops.length : Int) - 1)) g), (e.set (wI ((p0.ops.length : Int) - 1)).toNat (sv bJ)), h, p0.picks, p, Z, Z, H, pN, pO, pP, jg, pQ⟩
           ·refine id (Jy Z ?_)
            refine Ek Tryz.call61 Z (Hh E (FO.mk F P false) I b k m n al _ _ O) ?_
            rintro _ io _ S ⟨bK, bL, h9, rfl, rfl, kJ, kK, hD⟩
            refine ⟨(Ic Mb1 (Ic Mb3 (Ic Mb4 (Ic Mb5 (Ic Mb8 In0))))), ?_⟩
            refine Gf 1 12 (by kernel_rfl) ?_ ?_
            ·refine id (Jyq Z (FI (v := (sv c)) Z Z Z (Rb2 Z)) ⟨(Ic Mb1 (Ic Mb3 (Ic Mb4 (Ic Mb5 (Ic Mb8 In0))))), ?_⟩)
             refine Ao 12 Z ?_
             have jh : RowR FU io [(FM b bK bL)] [b] := RowR.cons ⟨bK, bL, Z, kJ, kK⟩ (RowR.nil)
             refine Gl (T := FU) (rows := [(FM b bK bL)]) (l := [b]) Z Z Z jh Z Z Z Z Z Z Z Z (fun Cf => ⟨(Ic Mb2 (Ic Mb4 (Ic Mb5 (Ic Mb6 (Ic Mb9 In0))))), ?_⟩)
             refine Ao 13 Z ?_
             have pS := U.mono S
             refine F7 (T := FU) (bytes := 88) (q := (wI ((p0.ops.length : Int) - 1)).toNat) Z Z Z pS Mb8 Y (SrcT.row Mb0 jh Z) x Z Z Z Z Z Z Z Z (fun bM vx c9 pR => ⟨_, (.there (.there (.there (.there (.there (.there (.there (.there .here)))))))), ⟨(Ic Mb2 (Ic Mb4 (Ic Mb5 (Ic Mb6 (Ic Mb9 In0))))), ?_⟩⟩)
             refine Aw.shift (Re0 (Sd ⟨(Ic Mb1 (Ic Mb3 (Ic Mb4 (Ic Mb5 (Ic Mb8 In0))))), ?_⟩))
             have f5 := (y.mono S).mono c9
             obtain ⟨Aj, eK, l5⟩ := RowR.at f5 f
             obtain ⟨Cg, rfl, xQ⟩ := l5
             have yY := FV eK
             refine FP 14 (by kernel_rfl) (Jyq Z (F6 (T := (Ty.sl FU)) Mb6 f5 eK (FSq f).1 Z Z Z Z Z) ⟨(Ic Mb1 (Ic Mb3 (Ic Mb4 (Ic Mb5 (Ic Mb8 In0))))), ?_⟩)
             refine Ao 15 Z ?_
             refine FX (T := (Ty.sl FU)) (vs := [(sv bM)]) (r' := [(sv bM)]) (l' := (Ge p0.ops (wI ((p0.ops.length : Int) - 1)) g)) Z Z Z Z Z (.there (.there (.there (.there (.there (.there .here)))))) f5 eK Z Z Z (RowR.set (wI ((p0.ops.length : Int) - 1)) f5 ⟨bM, Z, pR⟩) (fun ji => ⟨(Ic Mb1 (Ic Mb3 (Ic Mb4 (Ic Mb5 (Ic Mb8 In0))))), ?_⟩)
             have hse := FY e (wI ((p0.ops.length : Int) - 1)).toNat (sv bM)
             rw [hse] at ji ⊢
             clear hse
             have wG := F3 eK (v := (sv bM))
             refine Ad<|Pu8<|Pu8<|Pu8<|Pu8<|Pu8<|Pu7<|Pu7<|Pu7<|Re8<|?_
             have pT := hD.mono c9
             have pU := ((s.mono a).mono S).mono c9
             have pV := ((t.mono a).mono S).mono c9
             have pW := ((w.mono a).mono S).mono c9
             exact Sd ⟨_, by exact R3, h9, k, m, n, j, p0.cnfg.capacities, u, i, p0.cnfg.starts, r, p0.cnfg.threads, c, (Ge p0.ops (wI ((p0.ops.length : Int) - 1)) g), (e.set (wI ((p0.ops.length : Int) - 1)).toNat (sv bM)), h, p0.picks, p, Z, Z, H, pT, pU, pV, ji, pW⟩
            ·refine id (Jy Z ?_)
             have hf : RowR FU io [(FM b bK bL)] [b] := RowR.cons ⟨bK, bL, Z, kJ, kK⟩ (RowR.nil)
             refine Gl (T := FU) (rows := [(FM b bK bL)]) (l := [b]) Z Z Z hf Z Z Z Z Z Z Z Z (fun Ch => ⟨(Ic Mb2 (Ic Mb4 (Ic Mb5 (Ic Mb6 (Ic Mb9 In0))))), ?_⟩)
             refine Gf 1 13 (by kernel_rfl) ?_ ?_
             ·refine id (Jyq Z (FI (v := (sv c)) Z Z Z (Rb3 Z)) ⟨(Ic Mb2 (Ic Mb4 (Ic Mb5 (Ic Mb6 (Ic Mb9 In0))))), ?_⟩)
              refine Ao 13 Z ?_
              have pY := U.mono S
              refine F7 (T := FU) (bytes := 88) (q := (wI ((p0.ops.length : Int) - 1)).toNat) Z Z Z pY Mb8 Y (SrcT.row Mb0 hf Z) x Z Z Z Z Z Z Z Z (fun bN vy da pX => ⟨_, (.there (.there (.there (.there (.there (.there (.there (.there .here)))))))), ⟨(Ic Mb2 (Ic Mb4 (Ic Mb5 (Ic Mb6 (Ic Mb9 In0))))), ?_⟩⟩)
              refine Aw.shift (Re0 (Sd ⟨(Ic Mb1 (Ic Mb3 (Ic Mb4 (Ic Mb5 (Ic Mb8 In0))))), ?_⟩))
              have f6 := (y.mono S).mono da
              obtain ⟨Ak, eL, l6⟩ := RowR.at f6 f
              obtain ⟨Ci, rfl, xR⟩ := l6
              have yZ := FV eL
              refine FP 14 (by kernel_rfl) (Jyq Z (F6 (T := (Ty.sl FU)) Mb6 f6 eL (FSq f).1 Z Z Z Z Z) ⟨(Ic Mb1 (Ic Mb3 (Ic Mb4 (Ic Mb5 (Ic Mb8 In0))))), ?_⟩)
              refine Ao 15 Z ?_
              refine FX (T := (Ty.sl FU)) (vs := [(sv bN)]) (r' := [(sv bN)]) (l' := (Ge p0.ops (wI ((p0.ops.length : Int) - 1)) g)) Z Z Z Z Z (.there (.there (.there (.there (.there (.there .here)))))) f6 eL Z Z Z (RowR.set (wI ((p0.ops.length : Int) - 1)) f6 ⟨bN, Z, pX⟩) (fun jj => ⟨(Ic Mb1 (Ic Mb3 (Ic Mb4 (Ic Mb5 (Ic Mb8 In0))))), ?_⟩)
              have hse := FY e (wI ((p0.ops.length : Int) - 1)).toNat (sv bN)
              rw [hse] at jj ⊢
              clear hse
              have wH := F3 eL (v := (sv bN))
              refine Ad<|Pu8<|Pu8<|Pu8<|Pu8<|Pu8<|Pu7<|Pu7<|Pu7<|Re8<|?_
              have pZ := hD.mono da
              have p3 := ((s.mono a).mono S).mono da
              have p4 := ((t.mono a).mono S).mono da
              have p5 := ((w.mono a).mono S).mono da
              exact Sd ⟨_, by exact R3, h9, k, m, n, j, p0.cnfg.capacities, u, i, p0.cnfg.starts, r, p0.cnfg.threads, c, (Ge p0.ops (wI ((p0.ops.length : Int) - 1)) g), (e.set (wI ((p0.ops.length : Int) - 1)).toNat (sv bN)), h, p0.picks, p, Z, Z, H, pZ, p3, p4, jj, p5⟩
             ·refine id (Jy Z ?_)
              have p7 := U.mono S
              refine F7 (T := FU) (bytes := 88) (q := (wI ((p0.ops.length : Int) - 1)).toNat) Z Z Z p7 Mb8 Y (SrcT.row Mb0 hf Z) x Z Z Z Z Z Z Z Z (fun bO vz db p6 => ⟨_, (.there (.there (.there (.there (.there (.there (.there (.there .here)))))))), ⟨(Ic Mb2 (Ic Mb4 (Ic Mb5 (Ic Mb6 (Ic Mb9 In0))))), ?_⟩⟩)
              refine Aw.shift (Re0 (Sd ⟨(Ic Mb1 (Ic Mb3 (Ic Mb4 (Ic Mb5 (Ic Mb8 In0))))), ?_⟩))
              refine FP 1 (by kernel_rfl) (Jyq Z (FI (v := (sv c)) Z Z Z (Rb2 Z)) ⟨(Ic Mb1 (Ic Mb3 (Ic Mb4 (Ic Mb5 (Ic Mb8 In0))))), ?_⟩)
              have f7 := (y.mono S).mono db
              obtain ⟨Al, eM, l7⟩ := RowR.at f7 f
              obtain ⟨Cj, rfl, xS⟩ := l7
              have y2 := FV eM
              refine FP 14 (by kernel_rfl) (Jyq Z (F6 (T := (Ty.sl FU)) Mb6 f7 eM (FSq f).1 Z Z Z Z Z) ⟨(Ic Mb1 (Ic Mb3 (Ic Mb4 (Ic Mb5 (Ic Mb8 In0))))), ?_⟩)
              refine Ao 15 Z ?_
              refine FX (T := (Ty.sl FU)) (vs := [(sv bO)]) (r' := [(sv bO)]) (l' := (Ge p0.ops (wI ((p0.ops.length : Int) - 1)) g)) Z Z Z Z Z (.there (.there (.there (.there (.there (.there .here)))))) f7 eM Z Z Z (RowR.set (wI ((p0.ops.length : Int) - 1)) f7 ⟨bO, Z, p6⟩) (fun jk => ⟨(Ic Mb1 (Ic Mb3 (Ic Mb4 (Ic Mb5 (Ic Mb8 In0))))), ?_⟩)
              have hse := FY e (wI ((p0.ops.length : Int) - 1)).toNat (sv bO)
              rw [hse] at jk ⊢
              clear hse
              have wJ := F3 eM (v := (sv bO))
              refine Ad<|Pu8<|Pu8<|Pu8<|Pu8<|Pu8<|Pu7<|Pu7<|Pu7<|Re8<|?_
              have p8 := hD.mono db
              have p9 := ((s.mono a).mono S).mono db
              have qa := ((t.mono a).mono S).mono db
              have qb := ((w.mono a).mono S).mono db
              exact Sd ⟨_, by exact R3, h9, k, m, n, j, p0.cnfg.capacities, u, i, p0.cnfg.starts, r, p0.cnfg.threads, c, (Ge p0.ops (wI ((p0.ops.length : Int) - 1)) g), (e.set (wI ((p0.ops.length : Int) - 1)).toNat (sv bO)), h, p0.picks, p, Z, Z, H, p8, p9, qa, jk, qb⟩
          ·refine id (Jy Z ?_)
           refine Ek Tryz.call61 Z (Hh E (FO.mk F P false) I b k m n al _ _ O) ?_
           rintro _ cF _ D ⟨ae, af, aY, rfl, rfl, d3, d4, aS⟩
           refine ⟨(Ic Mb1 (Ic Mb3 (Ic Mb4 (Ic Mb5 (Ic Mb8 In0))))), ?_⟩
           refine GG 1 9 12 (by kernel_rfl) ?_ ?_ ?_
           ·refine id (Jyq Z (FI (v := (sv c)) Z Z Z (Rb2 Z)) ⟨(Ic Mb1 (Ic Mb3 (Ic Mb4 (Ic Mb5 (Ic Mb8 In0))))), ?_⟩)
            refine Gf 9 12 (by kernel_rfl) ?_ ?_
            ·have kL := y.mono D
             refine id (Jyq Z (FI (v := (sv aR)) Z Z Z (Gj (T := (Ty.sl FU)) Mb6 kL az Z Z)) ⟨(Ic Mb1 (Ic Mb3 (Ic Mb4 (Ic Mb5 (Ic Mb8 In0))))), ?_⟩)
             refine Ao 12 Z ?_
             have jl : RowR FU cF [(FM b ae af)] [b] := RowR.cons ⟨ae, af, Z, d3, d4⟩ (RowR.nil)
             refine Gl (T := FU) (rows := [(FM b ae af)]) (l := [b]) Z Z Z jl Z Z Z Z Z Z Z Z (fun Ck => ⟨(Ic Mb2 (Ic Mb4 (Ic Mb5 (Ic Mb6 (Ic Mb9 In0))))), ?_⟩)
             refine Ao 13 Z ?_
             have qd := U.mono D
             refine F7 (T := FU) (bytes := 88) (q := (wI ((p0.ops.length : Int) - 1)).toNat) Z Z Z qd Mb8 Y (SrcT.row Mb0 jl Z) x Z Z Z Z Z Z Z Z (fun bP vA dc qc => ⟨_, (.there (.there (.there (.there (.there (.there (.there (.there .here)))))))), ⟨(Ic Mb2 (Ic Mb4 (Ic Mb5 (Ic Mb6 (Ic Mb9 In0))))), ?_⟩⟩)
             refine Aw.shift (Re0 (Sd ⟨(Ic Mb1 (Ic Mb3 (Ic Mb4 (Ic Mb5 (Ic Mb8 In0))))), ?_⟩))
             have f8 := kL.mono dc
             obtain ⟨Am, eN, l8⟩ := RowR.at f8 f
             obtain ⟨Cl, rfl, xT⟩ := l8
             have y3 := FV eN
             refine FP 14 (by kernel_rfl) (Jyq Z (F6 (T := (Ty.sl FU)) Mb6 f8 eN (FSq f).1 Z Z Z Z Z) ⟨(Ic Mb1 (Ic Mb3 (Ic Mb4 (Ic Mb5 (Ic Mb8 In0))))), ?_⟩)
             refine Ao 15 Z ?_
             refine FX (T := (Ty.sl FU)) (vs := [(sv bP)]) (r' := [(sv bP)]) (l' := (Ge p0.ops (wI ((p0.ops.length : Int) - 1)) g)) Z Z Z Z Z (.there (.there (.there (.there (.there (.there .here)))))) f8 eN Z Z Z (RowR.set (wI ((p0.ops.length : Int) - 1)) f8 ⟨bP, Z, qc⟩) (fun jm => ⟨(Ic Mb1 (Ic Mb3 (Ic Mb4 (Ic Mb5 (Ic Mb8 In0))))), ?_⟩)
             have hse := FY e (wI ((p0.ops.length : Int) - 1)).toNat (sv bP)
             rw [hse] at jm ⊢
             clear hse
             have wK := F3 eN (v := (sv bP))
             refine Ad<|Pu8<|Pu8<|Pu8<|Pu8<|Pu8<|Pu7<|Pu7<|Pu7<|Re8<|?_
             have qe := aS.mono dc
             have qf := ((s.mono a).mono D).mono dc
             have qg := ((t.mono a).mono D).mono dc
             have qh := ((w.mono a).mono D).mono dc
             exact Sd ⟨_, by exact R3, aY, k, m, n, j, p0.cnfg.capacities, u, i, p0.cnfg.starts, r, p0.cnfg.threads, c, (Ge p0.ops (wI ((p0.ops.length : Int) - 1)) g), (e.set (wI ((p0.ops.length : Int) - 1)).toNat (sv bP)), h, p0.picks, p, Z, Z, H, qe, qf, qg, jm, qh⟩
            ·refine id (Jy Z ?_)
             have jn : RowR FU cF [(FM b ae af)] [b] := RowR.cons ⟨ae, af, Z, d3, d4⟩ (RowR.nil)
             refine Gl (T := FU) (rows := [(FM b ae af)]) (l := [b]) Z Z Z jn Z Z Z Z Z Z Z Z (fun Cm => ⟨(Ic Mb2 (Ic Mb4 (Ic Mb5 (Ic Mb6 (Ic Mb9 In0))))), ?_⟩)
             have kM := y.mono D
             refine FP 9 (by kernel_rfl) (Jyq Z (FI (v := (sv aR)) Z Z Z (Gj (T := (Ty.sl FU)) Mb7 kM az Z Z)) ⟨(Ic Mb2 (Ic Mb4 (Ic Mb5 (Ic Mb6 (Ic Mb9 In0))))), ?_⟩)
             refine Ao 13 Z ?_
             have qj := U.mono D
             refine F7 (T := FU) (bytes := 88) (q := (wI ((p0.ops.length : Int) - 1)).toNat) Z Z Z qj Mb8 Y (SrcT.row Mb0 jn Z) x Z Z Z Z Z Z Z Z (fun bQ vB dd qi => ⟨_, (.there (.there (.there (.there (.there (.there (.there (.there .here)))))))), ⟨(Ic Mb2 (Ic Mb4 (Ic Mb5 (Ic Mb6 (Ic Mb9 In0))))), ?_⟩⟩)
             refine Aw.shift (Re0 (Sd ⟨(Ic Mb1 (Ic Mb3 (Ic Mb4 (Ic Mb5 (Ic Mb8 In0))))), ?_⟩))
             have f9 := kM.mono dd
             obtain ⟨An, eO, l9⟩ := RowR.at f9 f
             obtain ⟨Cn, rfl, xU⟩ := l9
             have y4 := FV eO
             refine FP 14 (by kernel_rfl) (Jyq Z (F6 (T := (Ty.sl FU)) Mb6 f9 eO (FSq f).1 Z Z Z Z Z) ⟨(Ic Mb1 (Ic Mb3 (Ic Mb4 (Ic Mb5 (Ic Mb8 In0))))), ?_⟩)
             refine Ao 15 Z ?_
             refine FX (T := (Ty.sl FU)) (vs := [(sv bQ)]) (r' := [(sv bQ)]) (l' := (Ge p0.ops (wI ((p0.ops.length : Int) - 1)) g)) Z Z Z Z Z (.there (.there (.there (.there (.there (.there .here)))))) f9 eO Z Z Z (RowR.set (wI ((p0.ops.length : Int) - 1)) f9 ⟨bQ, Z, qi⟩) (fun jo => ⟨(Ic Mb1 (Ic Mb3 (Ic Mb4 (Ic Mb5 (Ic Mb8 In0))))), ?_⟩)
             have hse := FY e (wI ((p0.ops.length : Int) - 1)).toNat (sv bQ)
             rw [hse] at jo ⊢
             clear hse
             have wL := F3 eO (v := (sv bQ))
             refine Ad<|Pu8<|Pu8<|Pu8<|Pu8<|Pu8<|Pu7<|Pu7<|Pu7<|Re8<|?_
             have qk := aS.mono dd
             have ql := ((s.mono a).mono D).mono dd
             have qm := ((t.mono a).mono D).mono dd
             have qn := ((w.mono a).mono D).mono dd
             exact Sd ⟨_, by exact R3, aY, k, m, n, j, p0.cnfg.capacities, u, i, p0.cnfg.starts, r, p0.cnfg.threads, c, (Ge p0.ops (wI ((p0.ops.length : Int) - 1)) g), (e.set (wI ((p0.ops.length : Int) - 1)).toNat (sv bQ)), h, p0.picks, p, Z, Z, H, qk, ql, qm, jo, qn⟩
           ·have ga := y.mono D
            refine id (Jyq Z (FI (v := (sv aR)) Z Z Z (Gj (T := (Ty.sl FU)) Mb6 ga az Z Z)) ⟨(Ic Mb1 (Ic Mb3 (Ic Mb4 (Ic Mb5 (Ic Mb8 In0))))), ?_⟩)
            refine Gf 1 12 (by kernel_rfl) ?_ ?_
            ·refine id (Jyq Z (FI (v := (sv c)) Z Z Z (Rb2 Z)) ⟨(Ic Mb1 (Ic Mb3 (Ic Mb4 (Ic Mb5 (Ic Mb8 In0))))), ?_⟩)
             refine Ao 12 Z ?_
             have jp : RowR FU cF [(FM b ae af)] [b] := RowR.cons ⟨ae, af, Z, d3, d4⟩ (RowR.nil)
             refine Gl (T := FU) (rows := [(FM b ae af)]) (l := [b]) Z Z Z jp Z Z Z Z Z Z Z Z (fun Co => ⟨(Ic Mb2 (Ic Mb4 (Ic Mb5 (Ic Mb6 (Ic Mb9 In0))))), ?_⟩)
             refine Ao 13 Z ?_
             have qp := U.mono D
             refine F7 (T := FU) (bytes := 88) (q := (wI ((p0.ops.length : Int) - 1)).toNat) Z Z Z qp Mb8 Y (SrcT.row Mb0 jp Z) x Z Z Z Z Z Z Z Z (fun bR vC de qo => ⟨_, (.there (.there (.there (.there (.there (.there (.there (.there .here)))))))), ⟨(Ic Mb2 (Ic Mb4 (Ic Mb5 (Ic Mb6 (Ic Mb9 In0))))), ?_⟩⟩)
             refine Aw.shift (Re0 (Sd ⟨(Ic Mb1 (Ic Mb3 (Ic Mb4 (Ic Mb5 (Ic Mb8 In0))))), ?_⟩))
             have gb := ga.mono de
             obtain ⟨Ap, eP, ma⟩ := RowR.at gb f
             obtain ⟨Cp, rfl, xV⟩ := ma
             have y5 := FV eP
             refine FP 14 (by kernel_rfl) (Jyq Z (F6 (T := (Ty.sl FU)) Mb6 gb eP (FSq f).1 Z Z Z Z Z) ⟨(Ic Mb1 (Ic Mb3 (Ic Mb4 (Ic Mb5 (Ic Mb8 In0))))), ?_⟩)
             refine Ao 15 Z ?_
             refine FX (T := (Ty.sl FU)) (vs := [(sv bR)]) (r' := [(sv bR)]) (l' := (Ge p0.ops (wI ((p0.ops.length : Int) - 1)) g)) Z Z Z Z Z (.there (.there (.there (.there (.there (.there .here)))))) gb eP Z Z Z (RowR.set (wI ((p0.ops.length : Int) - 1)) gb ⟨bR, Z, qo⟩) (fun jq => ⟨(Ic Mb1 (Ic Mb3 (Ic Mb4 (Ic Mb5 (Ic Mb8 In0))))), ?_⟩)
             have hse := FY e (wI ((p0.ops.length : Int) - 1)).toNat (sv bR)
             rw [hse] at jq ⊢
             clear hse
             have wM := F3 eP (v := (sv bR))
             refine Ad<|Pu8<|Pu8<|Pu8<|Pu8<|Pu8<|Pu7<|Pu7<|Pu7<|Re8<|?_
             have qq := aS.mono de
             have qr := ((s.mono a).mono D).mono de
             have qs := ((t.mono a).mono D).mono de
             have qt := ((w.mono a).mono D).mono de
             exact Sd ⟨_, by exact R3, aY, k, m, n, j, p0.cnfg.capacities, u, i, p0.cnfg.starts, r, p0.cnfg.threads, c, (Ge p0.ops (wI ((p0.ops.length : Int) - 1)) g), (e.set (wI ((p0.ops.length : Int) - 1)).toNat (sv bR)), h, p0.picks, p, Z, Z, H, qq, qr, qs, jq, qt⟩
            ·refine id (Jy Z ?_)
             have hg : RowR FU cF [(FM b ae af)] [b] := RowR.cons ⟨ae, af, Z, d3, d4⟩ (RowR.nil)
             refine Gl (T := FU) (rows := [(FM b ae af)]) (l := [b]) Z Z Z hg Z Z Z Z Z Z Z Z (fun Cq => ⟨(Ic Mb2 (Ic Mb4 (Ic Mb5 (Ic Mb6 (Ic Mb9 In0))))), ?_⟩)
             refine Gf 1 13 (by kernel_rfl) ?_ ?_
             ·refine id (Jyq Z (FI (v := (sv c)) Z Z Z (Rb3 Z)) ⟨(Ic Mb2 (Ic Mb4 (Ic Mb5 (Ic Mb6 (Ic Mb9 In0))))), ?_⟩)
              refine Ao 13 Z ?_
              have qv := U.mono D
              refine F7 (T := FU) (bytes := 88) (q := (wI ((p0.ops.length : Int) - 1)).toNat) Z Z Z qv Mb8 Y (SrcT.row Mb0 hg Z) x Z Z Z Z Z Z Z Z (fun bS vD df qu => ⟨_, (.there (.there (.there (.there (.there (.there (.there (.there .here)))))))), ⟨(Ic Mb2 (Ic Mb4 (Ic Mb5 (Ic Mb6 (Ic Mb9 In0))))), ?_⟩⟩)
              refine Aw.shift (Re0 (Sd ⟨(Ic Mb1 (Ic Mb3 (Ic Mb4 (Ic Mb5 (Ic Mb8 In0))))), ?_⟩))
              have gc := ga.mono df
              obtain ⟨Aq, eQ, mb⟩ := RowR.at gc f
              obtain ⟨Cr, rfl, xW⟩ := mb
              have y6 := FV eQ
              refine FP 14 (by kernel_rfl) (Jyq Z (F6 (T := (Ty.sl FU)) Mb6 gc eQ (FSq f).1 Z Z Z Z Z) ⟨(Ic Mb1 (Ic Mb3 (Ic Mb4 (Ic Mb5 (Ic Mb8 In0))))), ?_⟩)
              refine Ao 15 Z ?_
              refine FX (T := (Ty.sl FU)) (vs := [(sv bS)]) (r' := [(sv bS)]) (l' := (Ge p0.ops (wI ((p0.ops.length : Int) - 1)) g)) Z Z Z Z Z (.there (.there (.there (.there (.there (.there .here)))))) gc eQ Z Z Z (RowR.set (wI ((p0.ops.length : Int) - 1)) gc ⟨bS, Z, qu⟩) (fun jr => ⟨(Ic Mb1 (Ic Mb3 (Ic Mb4 (Ic Mb5 (Ic Mb8 In0))))), ?_⟩)
              have hse := FY e (wI ((p0.ops.length : Int) - 1)).toNat (sv bS)
              rw [hse] at jr ⊢
              clear hse
              have wN := F3 eQ (v := (sv bS))
              refine Ad<|Pu8<|Pu8<|Pu8<|Pu8<|Pu8<|Pu7<|Pu7<|Pu7<|Re8<|?_
              have qw := aS.mono df
              have qx := ((s.mono a).mono D).mono df
              have qy := ((t.mono a).mono D).mono df
              have qz := ((w.mono a).mono D).mono df
              exact Sd ⟨_, by exact R3, aY, k, m, n, j, p0.cnfg.capacities, u, i, p0.cnfg.starts, r, p0.cnfg.threads, c, (Ge p0.ops (wI ((p0.ops.length : Int) - 1)) g), (e.set (wI ((p0.ops.length : Int) - 1)).toNat (sv bS)), h, p0.picks, p, Z, Z, H, qw, qx, qy, jr, qz⟩
             ·refine id (Jy Z ?_)
              have qB := U.mono D
              refine F7 (T := FU) (bytes := 88) (q := (wI ((p0.ops.length : Int) - 1)).toNat) Z Z Z qB Mb8 Y (SrcT.row Mb0 hg Z) x Z Z Z Z Z Z Z Z (fun bT vE dg qA => ⟨_, (.there (.there (.there (.there (.there (.there (.there (.there .here)))))))), ⟨(Ic Mb2 (Ic Mb4 (Ic Mb5 (Ic Mb6 (Ic Mb9 In0))))), ?_⟩⟩)
              refine Aw.shift (Re0 (Sd ⟨(Ic Mb1 (Ic Mb3 (Ic Mb4 (Ic Mb5 (Ic Mb8 In0))))), ?_⟩))
              refine FP 1 (by kernel_rfl) (Jyq Z (FI (v := (sv c)) Z Z Z (Rb2 Z)) ⟨(Ic Mb1 (Ic Mb3 (Ic Mb4 (Ic Mb5 (Ic Mb8 In0))))), ?_⟩)
              have gd := ga.mono dg
              obtain ⟨Ar, eR, mc⟩ := RowR.at gd f
              obtain ⟨Cs, rfl, xX⟩ := mc
              have y7 := FV eR
              refine FP 14 (by kernel_rfl) (Jyq Z (F6 (T := (Ty.sl FU)) Mb6 gd eR (FSq f).1 Z Z Z Z Z) ⟨(Ic Mb1 (Ic Mb3 (Ic Mb4 (Ic Mb5 (Ic Mb8 In0))))), ?_⟩)
              refine Ao 15 Z ?_
              refine FX (T := (Ty.sl FU)) (vs := [(sv bT)]) (r' := [(sv bT)]) (l' := (Ge p0.ops (wI ((p0.ops.length : Int) - 1)) g)) Z Z Z Z Z (.there (.there (.there (.there (.there (.there .here)))))) gd eR Z Z Z (RowR.set (wI ((p0.ops.length : Int) - 1)) gd ⟨bT, Z, qA⟩) (fun js => ⟨(Ic Mb1 (Ic Mb3 (Ic Mb4 (Ic Mb5 (Ic Mb8 In0))))), ?_⟩)
              have hse := FY e (wI ((p0.ops.length : Int) - 1)).toNat (sv bT)
              rw [hse] at js ⊢
              clear hse
              have wO := F3 eR (v := (sv bT))
              refine Ad<|Pu8<|Pu8<|Pu8<|Pu8<|Pu8<|Pu7<|Pu7<|Pu7<|Re8<|?_
              have qC := aS.mono dg
              have qD := ((s.mono a).mono D).mono dg
              have qE := ((t.mono a).mono D).mono dg
              have qF := ((w.mono a).mono D).mono dg
              exact Sd ⟨_, by exact R3, aY, k, m, n, j, p0.cnfg.capacities, u, i, p0.cnfg.starts, r, p0.cnfg.threads, c, (Ge p0.ops (wI ((p0.ops.length : Int) - 1)) g), (e.set (wI ((p0.ops.length : Int) - 1)).toNat (sv bT)), h, p0.picks, p, Z, Z, H, qC, qD, qE, js, qF⟩
           ·refine id (Jy Z ?_)
            have ej : RowR FU cF [(FM b ae af)] [b] := RowR.cons ⟨ae, af, Z, d3, d4⟩ (RowR.nil)
            refine Gl (T := FU) (rows := [(FM b ae af)]) (l := [b]) Z Z Z ej Z Z Z Z Z Z Z Z (fun Ct => ⟨(Ic Mb2 (Ic Mb4 (Ic Mb5 (Ic Mb6 (Ic Mb9 In0))))), ?_⟩)
            refine Gf 1 9 (by kernel_rfl) ?_ ?_
            ·refine id (Jyq Z (FI (v := (sv c)) Z Z Z (Rb3 Z)) ⟨(Ic Mb2 (Ic Mb4 (Ic Mb5 (Ic Mb6 (Ic Mb9 In0))))), ?_⟩)
             have kN := y.mono D
             refine FP 9 (by kernel_rfl) (Jyq Z (FI (v := (sv aR)) Z Z Z (Gj (T := (Ty.sl FU)) Mb7 kN az Z Z)) ⟨(Ic Mb2 (Ic Mb4 (Ic Mb5 (Ic Mb6 (Ic Mb9 In0))))), ?_⟩)
             refine Ao 13 Z ?_
             have qH := U.mono D
             refine F7 (T := FU) (bytes := 88) (q := (wI ((p0.ops.length : Int) - 1)).toNat) Z Z Z qH Mb8 Y (SrcT.row Mb0 ej Z) x Z Z Z Z Z Z Z Z (fun bU vF dh qG => ⟨_, (.there (.there (.there (.there (.there (.there (.there (.there .here)))))))), ⟨(Ic Mb2 (Ic Mb4 (Ic Mb5 (Ic Mb6 (Ic Mb9 In0))))), ?_⟩⟩)
             refine Aw.shift (Re0 (Sd ⟨(Ic Mb1 (Ic Mb3 (Ic Mb4 (Ic Mb5 (Ic Mb8 In0))))), ?_⟩))
             have ge := kN.mono dh
             obtain ⟨As, eS, md⟩ := RowR.at ge f
             obtain ⟨Cu, rfl, xY⟩ := md
             have y8 := FV eS
             refine FP 14 (by kernel_rfl) (Jyq Z (F6 (T := (Ty.sl FU)) Mb6 ge eS (FSq f).1 Z Z Z Z Z) ⟨(Ic Mb1 (Ic Mb3 (Ic Mb4 (Ic Mb5 (Ic Mb8 In0))))), ?_⟩)
             refine Ao 15 Z ?_
             refine FX (T := (Ty.sl FU)) (vs := [(sv bU)]) (r' := [(sv bU)]) (l' := (Ge p0.ops (wI ((p0.ops.length : Int) - 1)) g)) Z Z Z Z Z (.there (.there (.there (.there (.there (.there .here)))))) ge eS Z Z Z (RowR.set (wI ((p0.ops.length : Int) - 1)) ge ⟨bU, Z, qG⟩) (fun jt => ⟨(Ic Mb1 (Ic Mb3 (Ic Mb4 (Ic Mb5 (Ic Mb8 In0))))), ?_⟩)
             have hse := FY e (wI ((p0.ops.length : Int) - 1)).toNat (sv bU)
             rw [hse] at jt ⊢
             clear hse
             have wP := F3 eS (v := (sv bU))
             refine Ad<|Pu8<|Pu8<|Pu8<|Pu8<|Pu8<|Pu7<|Pu7<|Pu7<|Re8<|?_
             have qI := aS.mono dh
             have qJ := ((s.mono a).mono D).mono dh
             have qK := ((t.mono a).mono D).mono dh
             have qL := ((w.mono a).mono D).mono dh
             exact Sd ⟨_, by exact R3, aY, k, m, n, j, p0.cnfg.capacities, u, i, p0.cnfg.starts, r, p0.cnfg.threads, c, (Ge p0.ops (wI ((p0.ops.length : Int) - 1)) g), (e.set (wI ((p0.ops.length : Int) - 1)).toNat (sv bU)), h, p0.picks, p, Z, Z, H, qI, qJ, qK, jt, qL⟩
            ·have hE := y.mono D
             refine id (Jyq Z (FI (v := (sv aR)) Z Z Z (Gj (T := (Ty.sl FU)) Mb7 hE az Z Z)) ⟨(Ic Mb2 (Ic Mb4 (Ic Mb5 (Ic Mb6 (Ic Mb9 In0))))), ?_⟩)
             refine Gf 1 13 (by kernel_rfl) ?_ ?_
             ·refine id (Jyq Z (FI (v := (sv c)) Z Z Z (Rb3 Z)) ⟨(Ic Mb2 (Ic Mb4 (Ic Mb5 (Ic Mb6 (Ic Mb9 In0))))), ?_⟩)
              refine Ao 13 Z ?_
              have qN := U.mono D
              refine F7 (T := FU) (bytes := 88) (q := (wI ((p0.ops.length : Int) - 1)).toNat) Z Z Z qN Mb8 Y (SrcT.row Mb0 ej Z) x Z Z Z Z Z Z Z Z (fun bV vG di qM => ⟨_, (.there (.there (.there (.there (.there (.there (.there (.there .here)))))))), ⟨(Ic Mb2 (Ic Mb4 (Ic Mb5 (Ic Mb6 (Ic Mb9 In0))))), ?_⟩⟩)
              refine Aw.shift (Re0 (Sd ⟨(Ic Mb1 (Ic Mb3 (Ic Mb4 (Ic Mb5 (Ic Mb8 In0))))), ?_⟩))
              have gf := hE.mono di
              obtain ⟨At, eT, me⟩ := RowR.at gf f
              obtain ⟨Cv, rfl, xZ⟩ := me
              have y9 := FV eT
              refine FP 14 (by kernel_rfl) (Jyq Z (F6 (T := (Ty.sl FU)) Mb6 gf eT (FSq f).1 Z Z Z Z Z) ⟨(Ic Mb1 (Ic Mb3 (Ic Mb4 (Ic Mb5 (Ic Mb8 In0))))), ?_⟩)
              refine Ao 15 Z ?_
              refine FX (T := (Ty.sl FU)) (vs := [(sv bV)]) (r' := [(sv bV)]) (l' := (Ge p0.ops (wI ((p0.ops.length : Int) - 1)) g)) Z Z Z Z Z (.there (.there (.there (.there (.there (.there .here)))))) gf eT Z Z Z (RowR.set (wI ((p0.ops.length : Int) - 1)) gf ⟨bV, Z, qM⟩) (fun ju => ⟨(Ic Mb1 (Ic Mb3 (Ic Mb4 (Ic Mb5 (Ic Mb8 In0))))), ?_⟩)
              have hse := FY e (wI ((p0.ops.length : Int) - 1)).toNat (sv bV)
              rw [hse] at ju ⊢
              clear hse
              have wQ := F3 eT (v := (sv bV))
              refine Ad<|Pu8<|Pu8<|Pu8<|Pu8<|Pu8<|Pu7<|Pu7<|Pu7<|Re8<|?_
              have qO := aS.mono di
              have qP := ((s.mono a).mono D).mono di
              have qQ := ((t.mono a).mono D).mono di
              have qR := ((w.mono a).mono D).mono di
              exact Sd ⟨_, by exact R3, aY, k, m, n, j, p0.cnfg.capacities, u, i, p0.cnfg.starts, r, p0.cnfg.threads, c, (Ge p0.ops (wI ((p0.ops.length : Int) - 1)) g), (e.set (wI ((p0.ops.length : Int) - 1)).toNat (sv bV)), h, p0.picks, p, Z, Z, H, qO, qP, qQ, ju, qR⟩
             ·refine id (Jy Z ?_)
              have qT := U.mono D
              refine F7 (T := FU) (bytes := 88) (q := (wI ((p0.ops.length : Int) - 1)).toNat) Z Z Z qT Mb8 Y (SrcT.row Mb0 ej Z) x Z Z Z Z Z Z Z Z (fun bW vH dj qS => ⟨_, (.there (.there (.there (.there (.there (.there (.there (.there .here)))))))), ⟨(Ic Mb2 (Ic Mb4 (Ic Mb5 (Ic Mb6 (Ic Mb9 In0))))), ?_⟩⟩)
              refine Aw.shift (Re0 (Sd ⟨(Ic Mb1 (Ic Mb3 (Ic Mb4 (Ic Mb5 (Ic Mb8 In0))))), ?_⟩))
              refine FP 1 (by kernel_rfl) (Jyq Z (FI (v := (sv c)) Z Z Z (Rb2 Z)) ⟨(Ic Mb1 (Ic Mb3 (Ic Mb4 (Ic Mb5 (Ic Mb8 In0))))), ?_⟩)
              have gg := hE.mono dj
              obtain ⟨Au, eU, mf⟩ := RowR.at gg f
              obtain ⟨Cw, rfl, x0⟩ := mf
              have za := FV eU
              refine FP 14 (by kernel_rfl) (Jyq Z (F6 (T := (Ty.sl FU)) Mb6 gg eU (FSq f).1 Z Z Z Z Z) ⟨(Ic Mb1 (Ic Mb3 (Ic Mb4 (Ic Mb5 (Ic Mb8 In0))))), ?_⟩)
              refine Ao 15 Z ?_
              refine FX (T := (Ty.sl FU)) (vs := [(sv bW)]) (r' := [(sv bW)]) (l' := (Ge p0.ops (wI ((p0.ops.length : Int) - 1)) g)) Z Z Z Z Z (.there (.there (.there (.there (.there (.there .here)))))) gg eU Z Z Z (RowR.set (wI ((p0.ops.length : Int) - 1)) gg ⟨bW, Z, qS⟩) (fun jv => ⟨(Ic Mb1 (Ic Mb3 (Ic Mb4 (Ic Mb5 (Ic Mb8 In0))))), ?_⟩)
              have hse := FY e (wI ((p0.ops.length : Int) - 1)).toNat (sv bW)
              rw [hse] at jv ⊢
              clear hse
              have wR := F3 eU (v := (sv bW))
              refine Ad<|Pu8<|Pu8<|Pu8<|Pu8<|Pu8<|Pu7<|Pu7<|Pu7<|Re8<|?_
              have qU := aS.mono dj
              have qV := ((s.mono a).mono D).mono dj
              have qW := ((t.mono a).mono D).mono dj
              have qX := ((w.mono a).mono D).mono dj
              exact Sd ⟨_, by exact R3, aY, k, m, n, j, p0.cnfg.capacities, u, i, p0.cnfg.starts, r, p0.cnfg.threads, c, (Ge p0.ops (wI ((p0.ops.length : Int) - 1)) g), (e.set (wI ((p0.ops.length : Int) - 1)).toNat (sv bW)), h, p0.picks, p, Z, Z, H, qU, qV, qW, jv, qX⟩
         ·refine id (Jy Z ?_)
          refine Ek Tryz.call61 Z (Hh E (FO.mk F P false) I b k m n al _ _ O) ?_
          rintro _ aG _ A ⟨J, L, ag, rfl, rfl, aJ, aK, V⟩
          refine ⟨(Ic Mb1 (Ic Mb3 (Ic Mb4 (Ic Mb5 (Ic Mb8 In0))))), ?_⟩
          refine GG 1 8 12 (by kernel_rfl) ?_ ?_ ?_
          ·refine id (Jyq Z (FI (v := (sv c)) Z Z Z (Rb2 Z)) ⟨(Ic Mb1 (Ic Mb3 (Ic Mb4 (Ic Mb5 (Ic Mb8 In0))))), ?_⟩)
           refine Gf 8 12 (by kernel_rfl) ?_ ?_
           ·have bc := y.mono A
            obtain ⟨Av, eV, mg⟩ := RowR.at bc z
            obtain ⟨k9, rfl, kO⟩ := mg
            have kU := FV eV
            refine id (Jyq Z (F6 (T := (Ty.sl FU)) Mb6 bc eV (FSq z).1 Z Z Z Z Z) ⟨(Ic Mb1 (Ic Mb3 (Ic Mb4 (Ic Mb5 (Ic Mb8 In0))))), ?_⟩)
            refine Gf 9 12 (by kernel_rfl) ?_ ?_
            ·refine id (Jyq Z (FI (v := (sv k9)) Z Z Z (Gj (T := (Ty.sl FU)) Mb6 bc eV Z Z)) ⟨(Ic Mb1 (Ic Mb3 (Ic Mb4 (Ic Mb5 (Ic Mb8 In0))))), ?_⟩)
             refine Ao 12 Z ?_
             have jw : RowR FU aG [(FM b J L)] [b] := RowR.cons ⟨J, L, Z, aJ, aK⟩ (RowR.nil)
             refine Gl (T := FU) (rows := [(FM b J L)]) (l := [b]) Z Z Z jw Z Z Z Z Z Z Z Z (fun Cx => ⟨(Ic Mb2 (Ic Mb4 (Ic Mb5 (Ic Mb6 (Ic Mb9 In0))))), ?_⟩)
             refine Ao 13 Z ?_
             refine F7 (T := FU) (bytes := 88) (q := (wI ((p0.ops.length : Int) - 1)).toNat) Z Z Z kO Mb8 kU (SrcT.row Mb0 jw Z) x Z Z Z Z Z Z Z Z (fun bX vI dk qY => ⟨_, (.there (.there (.there (.there (.there (.there (.there (.there .here)))))))), ⟨(Ic Mb2 (Ic Mb4 (Ic Mb5 (Ic Mb6 (Ic Mb9 In0))))), ?_⟩⟩)
             refine Aw.shift (Re0 (Sd ⟨(Ic Mb1 (Ic Mb3 (Ic Mb4 (Ic Mb5 (Ic Mb8 In0))))), ?_⟩))
             have gh := bc.mono dk
             obtain ⟨Ax, eW, mh⟩ := RowR.at gh f
             obtain ⟨Cy, rfl, x1⟩ := mh
             have zb := FV eW
             refine FP 14 (by kernel_rfl) (Jyq Z (F6 (T := (Ty.sl FU)) Mb6 gh eW (FSq f).1 Z Z Z Z Z) ⟨(Ic Mb1 (Ic Mb3 (Ic Mb4 (Ic Mb5 (Ic Mb8 In0))))), ?_⟩)
             refine Ao 15 Z ?_
             refine FX (T := (Ty.sl FU)) (vs := [(sv bX)]) (r' := [(sv bX)]) (l' := (Ge p0.ops (wI ((p0.ops.length : Int) - 1)) g)) Z Z Z Z Z (.there (.there (.there (.there (.there (.there .here)))))) gh eW Z Z Z (RowR.set (wI ((p0.ops.length : Int) - 1)) gh ⟨bX, Z, qY⟩) (fun jx => ⟨(Ic Mb1 (Ic Mb3 (Ic Mb4 (Ic Mb5 (Ic Mb8 In0))))), ?_⟩)
             have hse := FY e (wI ((p0.ops.length : Int) - 1)).toNat (sv bX)
             rw [hse] at jx ⊢
             clear hse
             have wS := F3 eW (v := (sv bX))
             refine Ad<|Pu8<|Pu8<|Pu8<|Pu8<|Pu8<|Pu7<|Pu7<|Pu7<|Re8<|?_
             have qZ := V.mono dk
             have q0 := ((s.mono a).mono A).mono dk
             have q1 := ((t.mono a).mono A).mono dk
             have q2 := ((w.mono a).mono A).mono dk
             exact Sd ⟨_, by exact R3, ag, k, m, n, j, p0.cnfg.capacities, u, i, p0.cnfg.starts, r, p0.cnfg.threads, c, (Ge p0.ops (wI ((p0.ops.length : Int) - 1)) g), (e.set (wI ((p0.ops.length : Int) - 1)).toNat (sv bX)), h, p0.picks, p, Z, Z, H, qZ, q0, q1, jx, q2⟩
            ·refine id (Jy Z ?_)
             have jy : RowR FU aG [(FM b J L)] [b] := RowR.cons ⟨J, L, Z, aJ, aK⟩ (RowR.nil)
             refine Gl (T := FU) (rows := [(FM b J L)]) (l := [b]) Z Z Z jy Z Z Z Z Z Z Z Z (fun Cz => ⟨(Ic Mb2 (Ic Mb4 (Ic Mb5 (Ic Mb6 (Ic Mb9 In0))))), ?_⟩)
             refine FP 9 (by kernel_rfl) (Jyq Z (FI (v := (sv k9)) Z Z Z (Gj (T := (Ty.sl FU)) Mb7 bc eV Z Z)) ⟨(Ic Mb2 (Ic Mb4 (Ic Mb5 (Ic Mb6 (Ic Mb9 In0))))), ?_⟩)
             refine Ao 13 Z ?_
             refine F7 (T := FU) (bytes := 88) (q := (wI ((p0.ops.length : Int) - 1)).toNat) Z Z Z kO Mb8 kU (SrcT.row Mb0 jy Z) x Z Z Z Z Z Z Z Z (fun bY vJ dl q3 => ⟨_, (.there (.there (.there (.there (.there (.there (.there (.there .here)))))))), ⟨(Ic Mb2 (Ic Mb4 (Ic Mb5 (Ic Mb6 (Ic Mb9 In0))))), ?_⟩⟩)
             refine Aw.shift (Re0 (Sd ⟨(Ic Mb1 (Ic Mb3 (Ic Mb4 (Ic Mb5 (Ic Mb8 In0))))), ?_⟩))
             have gi := bc.mono dl
             obtain ⟨Ay, eX, mi⟩ := RowR.at gi f
             obtain ⟨CA, rfl, x2⟩ := mi
             have zc := FV eX
             refine FP 14 (by kernel_rfl) (Jyq Z (F6 (T := (Ty.sl FU)) Mb6 gi eX (FSq f).1 Z Z Z Z Z) ⟨(Ic Mb1 (Ic Mb3 (Ic Mb4 (Ic Mb5 (Ic Mb8 In0))))), ?_⟩)
             refine Ao 15 Z ?_
             refine FX (T := (Ty.sl FU)) (vs := [(sv bY)]) (r' := [(sv bY)]) (l' := (Ge p0.ops (wI ((p0.ops.length : Int) - 1)) g)) Z Z Z Z Z (.there (.there (.there (.there (.there (.there .here)))))) gi eX Z Z Z (RowR.set (wI ((p0.ops.length : Int) - 1)) gi ⟨bY, Z, q3⟩) (fun jz => ⟨(Ic Mb1 (Ic Mb3 (Ic Mb4 (Ic Mb5 (Ic Mb8 In0))))), ?_⟩)
             have hse := FY e (wI ((p0.ops.length : Int) - 1)).toNat (sv bY)
             rw [hse] at jz ⊢
             clear hse
             have wT := F3 eX (v := (sv bY))
             refine Ad<|Pu8<|Pu8<|Pu8<|Pu8<|Pu8<|Pu7<|Pu7<|Pu7<|Re8<|?_
             have q4 := V.mono dl
             have q5 := ((s.mono a).mono A).mono dl
             have q6 := ((t.mono a).mono A).mono dl
             have q7 := ((w.mono a).mono A).mono dl
             exact Sd ⟨_, by exact R3, ag, k, m, n, j, p0.cnfg.capacities, u, i, p0.cnfg.starts, r, p0.cnfg.threads, c, (Ge p0.ops (wI ((p0.ops.length : Int) - 1)) g), (e.set (wI ((p0.ops.length : Int) - 1)).toNat (sv bY)), h, p0.picks, p, Z, Z, H, q4, q5, q6, jz, q7⟩
           ·refine id (Jy Z ?_)
            have jA : RowR FU aG [(FM b J L)] [b] := RowR.cons ⟨J, L, Z, aJ, aK⟩ (RowR.nil)
            refine Gl (T := FU) (rows := [(FM b J L)]) (l := [b]) Z Z Z jA Z Z Z Z Z Z Z Z (fun CB => ⟨(Ic Mb2 (Ic Mb4 (Ic Mb5 (Ic Mb6 (Ic Mb9 In0))))), ?_⟩)
            have gj := y.mono A
            obtain ⟨Az, hn, mj⟩ := RowR.at gj z
            obtain ⟨uX, rfl, q8⟩ := mj
            have up := FV hn
            refine FP 8 (by kernel_rfl) (Jyq Z (F6 (T := (Ty.sl FU)) Mb7 gj hn (FSq z).1 Z Z Z Z Z) ⟨(Ic Mb2 (Ic Mb4 (Ic Mb5 (Ic Mb6 (Ic Mb9 In0))))), ?_⟩)
            refine FP 9 (by kernel_rfl) (Jyq Z (FI (v := (sv uX)) Z Z Z (Gj (T := (Ty.sl FU)) Mb7 gj hn Z Z)) ⟨(Ic Mb2 (Ic Mb4 (Ic Mb5 (Ic Mb6 (Ic Mb9 In0))))), ?_⟩)
            refine Ao 13 Z ?_
            refine F7 (T := FU) (bytes := 88) (q := (wI ((p0.ops.length : Int) - 1)).toNat) Z Z Z q8 Mb8 up (SrcT.row Mb0 jA Z) x Z Z Z Z Z Z Z Z (fun bZ vK dm q9 => ⟨_, (.there (.there (.there (.there (.there (.there (.there (.there .here)))))))), ⟨(Ic Mb2 (Ic Mb4 (Ic Mb5 (Ic Mb6 (Ic Mb9 In0))))), ?_⟩⟩)
            refine Aw.shift (Re0 (Sd ⟨(Ic Mb1 (Ic Mb3 (Ic Mb4 (Ic Mb5 (Ic Mb8 In0))))), ?_⟩))
            have gk := gj.mono dm
            obtain ⟨AA, eY, ml⟩ := RowR.at gk f
            obtain ⟨CC, rfl, x3⟩ := ml
            have zd := FV eY
            refine FP 14 (by kernel_rfl) (Jyq Z (F6 (T := (Ty.sl FU)) Mb6 gk eY (FSq f).1 Z Z Z Z Z) ⟨(Ic Mb1 (Ic Mb3 (Ic Mb4 (Ic Mb5 (Ic Mb8 In0))))), ?_⟩)
            refine Ao 15 Z ?_
            refine FX (T := (Ty.sl FU)) (vs := [(sv bZ)]) (r' := [(sv bZ)]) (l' := (Ge p0.ops (wI ((p0.ops.length : Int) - 1)) g)) Z Z Z Z Z (.there (.there (.there (.there (.there (.there .here)))))) gk eY Z Z Z (RowR.set (wI ((p0.ops.length : Int) - 1)) gk ⟨bZ, Z, q9⟩) (fun jB => ⟨(Ic Mb1 (Ic Mb3 (Ic Mb4 (Ic Mb5 (Ic Mb8 In0))))), ?_⟩)
            have hse := FY e (wI ((p0.ops.length : Int) - 1)).toNat (sv bZ)
            rw [hse] at jB ⊢
            clear hse
            have wU := F3 eY (v := (sv bZ))
            refine Ad<|Pu8<|Pu8<|Pu8<|Pu8<|Pu8<|Pu7<|Pu7<|Pu7<|Re8<|?_
            have ra := V.mono dm
            have rb := ((s.mono a).mono A).mono dm
            have rc := ((t.mono a).mono A).mono dm
            have rd := ((w.mono a).mono A).mono dm
            exact Sd ⟨_, by exact R3, ag, k, m, n, j, p0.cnfg.capacities, u, i, p0.cnfg.starts, r, p0.cnfg.threads, c, (Ge p0.ops (wI ((p0.ops.length : Int) - 1)) g), (e.set (wI ((p0.ops.length : Int) - 1)).toNat (sv bZ)), h, p0.picks, p, Z, Z, H, ra, rb, rc, jB, rd⟩
          ·have W := y.mono A
           obtain ⟨AB, a1, mm⟩ := RowR.at W z
           obtain ⟨eb, rfl, aT⟩ := mm
           have aV := FV a1
           refine id (Jyq Z (F6 (T := (Ty.sl FU)) Mb6 W a1 (FSq z).1 Z Z Z Z Z) ⟨(Ic Mb1 (Ic Mb3 (Ic Mb4 (Ic Mb5 (Ic Mb8 In0))))), ?_⟩)
           refine GG 1 9 12 (by kernel_rfl) ?_ ?_ ?_
           ·refine id (Jyq Z (FI (v := (sv c)) Z Z Z (Rb2 Z)) ⟨(Ic Mb1 (Ic Mb3 (Ic Mb4 (Ic Mb5 (Ic Mb8 In0))))), ?_⟩)
            refine Gf 9 12 (by kernel_rfl) ?_ ?_
            ·refine id (Jyq Z (FI (v := (sv eb)) Z Z Z (Gj (T := (Ty.sl FU)) Mb6 W a1 Z Z)) ⟨(Ic Mb1 (Ic Mb3 (Ic Mb4 (Ic Mb5 (Ic Mb8 In0))))), ?_⟩)
             refine Ao 12 Z ?_
             have jC : RowR FU aG [(FM b J L)] [b] := RowR.cons ⟨J, L, Z, aJ, aK⟩ (RowR.nil)
             refine Gl (T := FU) (rows := [(FM b J L)]) (l := [b]) Z Z Z jC Z Z Z Z Z Z Z Z (fun CD => ⟨(Ic Mb2 (Ic Mb4 (Ic Mb5 (Ic Mb6 (Ic Mb9 In0))))), ?_⟩)
             refine Ao 13 Z ?_
             refine F7 (T := FU) (bytes := 88) (q := (wI ((p0.ops.length : Int) - 1)).toNat) Z Z Z aT Mb8 aV (SrcT.row Mb0 jC Z) x Z Z Z Z Z Z Z Z (fun b0 vL dn re => ⟨_, (.there (.there (.there (.there (.there (.there (.there (.there .here)))))))), ⟨(Ic Mb2 (Ic Mb4 (Ic Mb5 (Ic Mb6 (Ic Mb9 In0))))), ?_⟩⟩)
             refine Aw.shift (Re0 (Sd ⟨(Ic Mb1 (Ic Mb3 (Ic Mb4 (Ic Mb5 (Ic Mb8 In0))))), ?_⟩))
             have gl := W.mono dn
             obtain ⟨AC, eZ, mn⟩ := RowR.at gl f
             obtain ⟨CE, rfl, x4⟩ := mn
             have ze := FV eZ
             refine FP 14 (by kernel_rfl) (Jyq Z (F6 (T := (Ty.sl FU)) Mb6 gl eZ (FSq f).1 Z Z Z Z Z) ⟨(Ic Mb1 (Ic Mb3 (Ic Mb4 (Ic Mb5 (Ic Mb8 In0))))), ?_⟩)
             refine Ao 15 Z ?_
             refine FX (T := (Ty.sl FU)) (vs := [(sv b0)]) (r' := [(sv b0)]) (l' := (Ge p0.ops (wI ((p0.ops.length : Int) - 1)) g)) Z Z Z Z Z (.there (.there (.there (.there (.there (.there .here)))))) gl eZ Z Z Z (RowR.set (wI ((p0.ops.length : Int) - 1)) gl ⟨b0, Z, re⟩) (fun jD => ⟨(Ic Mb1 (Ic Mb3 (Ic Mb4 (Ic Mb5 (Ic Mb8 In0))))), ?_⟩)
             have hse := FY e (wI ((p0.ops.length : Int) - 1)).toNat (sv b0)
             rw [hse] at jD ⊢
             clear hse
             have wV := F3 eZ (v := (sv b0))
             refine Ad<|Pu8<|Pu8<|Pu8<|Pu8<|Pu8<|Pu7<|Pu7<|Pu7<|Re8<|?_
             have rf := V.mono dn
             have rg := ((s.mono a).mono A).mono dn
             have rh := ((t.mono a).mono A).mono dn
             have ri := ((w.mono a).mono A).mono dn
             exact Sd ⟨_, by exact R3, ag, k, m, n, j, p0.cnfg.capacities, u, i, p0.cnfg.starts, r, p0.cnfg.threads, c, (Ge p0.ops (wI ((p0.ops.length : Int) - 1)) g), (e.set (wI ((p0.ops.length : Int) - 1)).toNat (sv b0)), h, p0.picks, p, Z, Z, H, rf, rg, rh, jD, ri⟩
            ·refine id (Jy Z ?_)
             have jE : RowR FU aG [(FM b J L)] [b] := RowR.cons ⟨J, L, Z, aJ, aK⟩ (RowR.nil)
             refine Gl (T := FU) (rows := [(FM b J L)]) (l := [b]) Z Z Z jE Z Z Z Z Z Z Z Z (fun CF => ⟨(Ic Mb2 (Ic Mb4 (Ic Mb5 (Ic Mb6 (Ic Mb9 In0))))), ?_⟩)
             refine FP 9 (by kernel_rfl) (Jyq Z (FI (v := (sv eb)) Z Z Z (Gj (T := (Ty.sl FU)) Mb7 W a1 Z Z)) ⟨(Ic Mb2 (Ic Mb4 (Ic Mb5 (Ic Mb6 (Ic Mb9 In0))))), ?_⟩)
             refine Ao 13 Z ?_
             refine F7 (T := FU) (bytes := 88) (q := (wI ((p0.ops.length : Int) - 1)).toNat) Z Z Z aT Mb8 aV (SrcT.row Mb0 jE Z) x Z Z Z Z Z Z Z Z (fun b1 vM dp rj => ⟨_, (.there (.there (.there (.there (.there (.there (.there (.there .here)))))))), ⟨(Ic Mb2 (Ic Mb4 (Ic Mb5 (Ic Mb6 (Ic Mb9 In0))))), ?_⟩⟩)
             refine Aw.shift (Re0 (Sd ⟨(Ic Mb1 (Ic Mb3 (Ic Mb4 (Ic Mb5 (Ic Mb8 In0))))), ?_⟩))
             have gm := W.mono dp
             obtain ⟨AD, e0, mo⟩ := RowR.at gm f
             obtain ⟨CG, rfl, x5⟩ := mo
             have zf := FV e0
             refine FP 14 (by kernel_rfl) (Jyq Z (F6 (T := (Ty.sl FU)) Mb6 gm e0 (FSq f).1 Z Z Z Z Z) ⟨(Ic Mb1 (Ic Mb3 (Ic Mb4 (Ic Mb5 (Ic Mb8 In0))))), ?_⟩)
             refine Ao 15 Z ?_
             refine FX (T := (Ty.sl FU)) (vs := [(sv b1)]) (r' := [(sv b1)]) (l' := (Ge p0.ops (wI ((p0.ops.length : Int) - 1)) g)) Z Z Z Z Z (.there (.there (.there (.there (.there (.there .here)))))) gm e0 Z Z Z (RowR.set (wI ((p0.ops.length : Int) - 1)) gm ⟨b1, Z, rj⟩) (fun jF => ⟨(Ic Mb1 (Ic Mb3 (Ic Mb4 (Ic Mb5 (Ic Mb8 In0))))), ?_⟩)
             have hse := FY e (wI ((p0.ops.length : Int) - 1)).toNat (sv b1)
             rw [hse] at jF ⊢
             clear hse
             have wW := F3 e0 (v := (sv b1))
             refine Ad<|Pu8<|Pu8<|Pu8<|Pu8<|Pu8<|Pu7<|Pu7<|Pu7<|Re8<|?_
             have rk := V.mono dp
             have rl := ((s.mono a).mono A).mono dp
             have rm := ((t.mono a).mono A).mono dp
             have rn := ((w.mono a).mono A).mono dp
             exact Sd ⟨_, by exact R3, ag, k, m, n, j, p0.cnfg.capacities, u, i, p0.cnfg.starts, r, p0.cnfg.threads, c, (Ge p0.ops (wI ((p0.ops.length : Int) - 1)) g), (e.set (wI ((p0.ops.length : Int) - 1)).toNat (sv b1)), h, p0.picks, p, Z, Z, H, rk, rl, rm, jF, rn⟩
           ·refine id (Jyq Z (FI (v := (sv eb)) Z Z Z (Gj (T := (Ty.sl FU)) Mb6 W a1 Z Z)) ⟨(Ic Mb1 (Ic Mb3 (Ic Mb4 (Ic Mb5 (Ic Mb8 In0))))), ?_⟩)
            refine Gf 1 12 (by kernel_rfl) ?_ ?_
            ·refine id (Jyq Z (FI (v := (sv c)) Z Z Z (Rb2 Z)) ⟨(Ic Mb1 (Ic Mb3 (Ic Mb4 (Ic Mb5 (Ic Mb8 In0))))), ?_⟩)
             refine Ao 12 Z ?_
             have jG : RowR FU aG [(FM b J L)] [b] := RowR.cons ⟨J, L, Z, aJ, aK⟩ (RowR.nil)
             refine Gl (T := FU) (rows := [(FM b J L)]) (l := [b]) Z Z Z jG Z Z Z Z Z Z Z Z (fun CH => ⟨(Ic Mb2 (Ic Mb4 (Ic Mb5 (Ic Mb6 (Ic Mb9 In0))))), ?_⟩)
             refine Ao 13 Z ?_
             refine F7 (T := FU) (bytes := 88) (q := (wI ((p0.ops.length : Int) - 1)).toNat) Z Z Z aT Mb8 aV (SrcT.row Mb0 jG Z) x Z Z Z Z Z Z Z Z (fun b2 vN dq ro => ⟨_, (.there (.there (.there (.there (.there (.there (.there (.there .here)))))))), ⟨(Ic Mb2 (Ic Mb4 (Ic Mb5 (Ic Mb6 (Ic Mb9 In0))))), ?_⟩⟩)
             refine Aw.shift (Re0 (Sd ⟨(Ic Mb1 (Ic Mb3 (Ic Mb4 (Ic Mb5 (Ic Mb8 In0))))), ?_⟩))
             have gn := W.mono dq
             obtain ⟨AE, e1, mp⟩ := RowR.at gn f
             obtain ⟨CI, rfl, x6⟩ := mp
             have zg := FV e1
             refine FP 14 (by kernel_rfl) (Jyq Z (F6 (T := (Ty.sl FU)) Mb6 gn e1 (FSq f).1 Z Z Z Z Z) ⟨(Ic Mb1 (Ic Mb3 (Ic Mb4 (Ic Mb5 (Ic Mb8 In0))))), ?_⟩)
             refine Ao 15 Z ?_
             refine FX (T := (Ty.sl FU)) (vs := [(sv b2)]) (r' := [(sv b2)]) (l' := (Ge p0.ops (wI ((p0.ops.length : Int) - 1)) g)) Z Z Z Z Z (.there (.there (.there (.there (.there (.there .here)))))) gn e1 Z Z Z (RowR.set (wI ((p0.ops.length : Int) - 1)) gn ⟨b2, Z, ro⟩) (fun jH => ⟨(Ic Mb1 (Ic Mb3 (Ic Mb4 (Ic Mb5 (Ic Mb8 In0))))), ?_⟩)
             have hse := FY e (wI ((p0.ops.length : Int) - 1)).toNat (sv b2)
             rw [hse] at jH ⊢
             clear hse
             have wX := F3 e1 (v := (sv b2))
             refine Ad<|Pu8<|Pu8<|Pu8<|Pu8<|Pu8<|Pu7<|Pu7<|Pu7<|Re8<|?_
             have rp := V.mono dq
             have rq := ((s.mono a).mono A).mono dq
             have rr := ((t.mono a).mono A).mono dq
             have rs := ((w.mono a).mono A).mono dq
             exact Sd ⟨_, by exact R3, ag, k, m, n, j, p0.cnfg.capacities, u, i, p0.cnfg.starts, r, p0.cnfg.threads, c, (Ge p0.ops (wI ((p0.ops.length : Int) - 1)) g), (e.set (wI ((p0.ops.length : Int) - 1)).toNat (sv b2)), h, p0.picks, p, Z, Z, H, rp, rq, rr, jH, rs⟩
            ·refine id (Jy Z ?_)
             have hh : RowR FU aG [(FM b J L)] [b] := RowR.cons ⟨J, L, Z, aJ, aK⟩ (RowR.nil)
             refine Gl (T := FU) (rows := [(FM b J L)]) (l := [b]) Z Z Z hh Z Z Z Z Z Z Z Z (fun CJ => ⟨(Ic Mb2 (Ic Mb4 (Ic Mb5 (Ic Mb6 (Ic Mb9 In0))))), ?_⟩)
             refine Gf 1 13 (by kernel_rfl) ?_ ?_
             ·refine id (Jyq Z (FI (v := (sv c)) Z Z Z (Rb3 Z)) ⟨(Ic Mb2 (Ic Mb4 (Ic Mb5 (Ic Mb6 (Ic Mb9 In0))))), ?_⟩)
              refine Ao 13 Z ?_
              refine F7 (T := FU) (bytes := 88) (q := (wI ((p0.ops.length : Int) - 1)).toNat) Z Z Z aT Mb8 aV (SrcT.row Mb0 hh Z) x Z Z Z Z Z Z Z Z (fun b3 vO dr rt => ⟨_, (.there (.there (.there (.there (.there (.there (.there (.there .here)))))))), ⟨(Ic Mb2 (Ic Mb4 (Ic Mb5 (Ic Mb6 (Ic Mb9 In0))))), ?_⟩⟩)
              refine Aw.shift (Re0 (Sd ⟨(Ic Mb1 (Ic Mb3 (Ic Mb4 (Ic Mb5 (Ic Mb8 In0))))), ?_⟩))
              have go := W.mono dr
              obtain ⟨AF, e2, mq⟩ := RowR.at go f
              obtain ⟨CK, rfl, x7⟩ := mq
              have zh := FV e2
              refine FP 14 (by kernel_rfl) (Jyq Z (F6 (T := (Ty.sl FU)) Mb6 go e2 (FSq f).1 Z Z Z Z Z) ⟨(Ic Mb1 (Ic Mb3 (Ic Mb4 (Ic Mb5 (Ic Mb8 In0))))), ?_⟩)
              refine Ao 15 Z ?_
              refine FX (T := (Ty.sl FU)) (vs := [(sv b3)]) (r' := [(sv b3)]) (l' := (Ge p0.ops (wI ((p0.ops.length : Int) - 1)) g)) Z Z Z Z Z (.there (.there (.there (.there (.there (.there .here)))))) go e2 Z Z Z (RowR.set (wI ((p0.ops.length : Int) - 1)) go ⟨b3, Z, rt⟩) (fun jI => ⟨(Ic Mb1 (Ic Mb3 (Ic Mb4 (Ic Mb5 (Ic Mb8 In0))))), ?_⟩)
              have hse := FY e (wI ((p0.ops.length : Int) - 1)).toNat (sv b3)
              rw [hse] at jI ⊢
              clear hse
              have wY := F3 e2 (v := (sv b3))
              refine Ad<|Pu8<|Pu8<|Pu8<|Pu8<|Pu8<|Pu7<|Pu7<|Pu7<|Re8<|?_
              have ru := V.mono dr
              have rv := ((s.mono a).mono A).mono dr
              have rx := ((t.mono a).mono A).mono dr
              have ry := ((w.mono a).mono A).mono dr
              exact Sd ⟨_, by exact R3, ag, k, m, n, j, p0.cnfg.capacities, u, i, p0.cnfg.starts, r, p0.cnfg.threads, c, (Ge p0.ops (wI ((p0.ops.length : Int) - 1)) g), (e.set (wI ((p0.ops.length : Int) - 1)).toNat (sv b3)), h, p0.picks, p, Z, Z, H, ru, rv, rx, jI, ry⟩
             ·refine id (Jy Z ?_)
              refine F7 (T := FU) (bytes := 88) (q := (wI ((p0.ops.length : Int) - 1)).toNat) Z Z Z aT Mb8 aV (SrcT.row Mb0 hh Z) x Z Z Z Z Z Z Z Z (fun b4 vP ds rz => ⟨_, (.there (.there (.there (.there (.there (.there (.there (.there .here)))))))), ⟨(Ic Mb2 (Ic Mb4 (Ic Mb5 (Ic Mb6 (Ic Mb9 In0))))), ?_⟩⟩)
              refine Aw.shift (Re0 (Sd ⟨(Ic Mb1 (Ic Mb3 (Ic Mb4 (Ic Mb5 (Ic Mb8 In0))))), ?_⟩))
              refine FP 1 (by kernel_rfl) (Jyq Z (FI (v := (sv c)) Z Z Z (Rb2 Z)) ⟨(Ic Mb1 (Ic Mb3 (Ic Mb4 (Ic Mb5 (Ic Mb8 In0))))), ?_⟩)
              have gp := W.mono ds
              obtain ⟨AG, e3, mr⟩ := RowR.at gp f
              obtain ⟨CL, rfl, x8⟩ := mr
              have zi := FV e3
              refine FP 14 (by kernel_rfl) (Jyq Z (F6 (T := (Ty.sl FU)) Mb6 gp e3 (FSq f).1 Z Z Z Z Z) ⟨(Ic Mb1 (Ic Mb3 (Ic Mb4 (Ic Mb5 (Ic Mb8 In0))))), ?_⟩)
              refine Ao 15 Z ?_
              refine FX (T := (Ty.sl FU)) (vs := [(sv b4)]) (r' := [(sv b4)]) (l' := (Ge p0.ops (wI ((p0.ops.length : Int) - 1)) g)) Z Z Z Z Z (.there (.there (.there (.there (.there (.there .here)))))) gp e3 Z Z Z (RowR.set (wI ((p0.ops.length : Int) - 1)) gp ⟨b4, Z, rz⟩) (fun jJ => ⟨(Ic Mb1 (Ic Mb3 (Ic Mb4 (Ic Mb5 (Ic Mb8 In0))))), ?_⟩)
              have hse := FY e (wI ((p0.ops.length : Int) - 1)).toNat (sv b4)
              rw [hse] at jJ ⊢
              clear hse
              have wZ := F3 e3 (v := (sv b4))
              refine Ad<|Pu8<|Pu8<|Pu8<|Pu8<|Pu8<|Pu7<|Pu7<|Pu7<|Re8<|?_
              have rA := V.mono ds
              have rB := ((s.mono a).mono A).mono ds
              have rC := ((t.mono a).mono A).mono ds
              have rD := ((w.mono a).mono A).mono ds
              exact Sd ⟨_, by exact R3, ag, k, m, n, j, p0.cnfg.capacities, u, i, p0.cnfg.starts, r, p0.cnfg.threads, c, (Ge p0.ops (wI ((p0.ops.length : Int) - 1)) g), (e.set (wI ((p0.ops.length : Int) - 1)).toNat (sv b4)), h, p0.picks, p, Z, Z, H, rA, rB, rC, jJ, rD⟩
           ·refine id (Jy Z ?_)
            have ek : RowR FU aG [(FM b J L)] [b] := RowR.cons ⟨J, L, Z, aJ, aK⟩ (RowR.nil)
            refine Gl (T := FU) (rows := [(FM b J L)]) (l := [b]) Z Z Z ek Z Z Z Z Z Z Z Z (fun CM => ⟨(Ic Mb2 (Ic Mb4 (Ic Mb5 (Ic Mb6 (Ic Mb9 In0))))), ?_⟩)
            refine Gf 1 9 (by kernel_rfl) ?_ ?_
            ·refine id (Jyq Z (FI (v := (sv c)) Z Z Z (Rb3 Z)) ⟨(Ic Mb2 (Ic Mb4 (Ic Mb5 (Ic Mb6 (Ic Mb9 In0))))), ?_⟩)
             refine FP 9 (by kernel_rfl) (Jyq Z (FI (v := (sv eb)) Z Z Z (Gj (T := (Ty.sl FU)) Mb7 W a1 Z Z)) ⟨(Ic Mb2 (Ic Mb4 (Ic Mb5 (Ic Mb6 (Ic Mb9 In0))))), ?_⟩)
             refine Ao 13 Z ?_
             refine F7 (T := FU) (bytes := 88) (q := (wI ((p0.ops.length : Int) - 1)).toNat) Z Z Z aT Mb8 aV (SrcT.row Mb0 ek Z) x Z Z Z Z Z Z Z Z (fun b5 vQ dt rE => ⟨_, (.there (.there (.there (.there (.there (.there (.there (.there .here)))))))), ⟨(Ic Mb2 (Ic Mb4 (Ic Mb5 (Ic Mb6 (Ic Mb9 In0))))), ?_⟩⟩)
             refine Aw.shift (Re0 (Sd ⟨(Ic Mb1 (Ic Mb3 (Ic Mb4 (Ic Mb5 (Ic Mb8 In0))))), ?_⟩))
             have gq := W.mono dt
             obtain ⟨AH, e4, ms⟩ := RowR.at gq f
             obtain ⟨CN, rfl, x9⟩ := ms
             have zj := FV e4
             refine FP 14 (by kernel_rfl) (Jyq Z (F6 (T := (Ty.sl FU)) Mb6 gq e4 (FSq f).1 Z Z Z Z Z) ⟨(Ic Mb1 (Ic Mb3 (Ic Mb4 (Ic Mb5 (Ic Mb8 In0))))), ?_⟩)
             refine Ao 15 Z ?_
             refine FX (T := (Ty.sl FU)) (vs := [(sv b5)]) (r' := [(sv b5)]) (l' := (Ge p0.ops (wI ((p0.ops.length : Int) - 1)) g)) Z Z Z Z Z (.there (.there (.there (.there (.there (.there .here)))))) gq e4 Z Z Z (RowR.set (wI ((p0.ops.length : Int) - 1)) gq ⟨b5, Z, rE⟩) (fun jK => ⟨(Ic Mb1 (Ic Mb3 (Ic Mb4 (Ic Mb5 (Ic Mb8 In0))))), ?_⟩)
             have hse := FY e (wI ((p0.ops.length : Int) - 1)).toNat (sv b5)
             rw [hse] at jK ⊢
             clear hse
             have w0 := F3 e4 (v := (sv b5))
             refine Ad<|Pu8<|Pu8<|Pu8<|Pu8<|Pu8<|Pu7<|Pu7<|Pu7<|Re8<|?_
             have rF := V.mono dt
             have rG := ((s.mono a).mono A).mono dt
             have rH := ((t.mono a).mono A).mono dt
             have rI := ((w.mono a).mono A).mono dt
             exact Sd ⟨_, by exact R3, ag, k, m, n, j, p0.cnfg.capacities, u, i, p0.cnfg.starts, r, p0.cnfg.threads, c, (Ge p0.ops (wI ((p0.ops.length : Int) - 1)) g), (e.set (wI ((p0.ops.length : Int) - 1)).toNat (sv b5)), h, p0.picks, p, Z, Z, H, rF, rG, rH, jK, rI⟩
            ·refine id (Jyq Z (FI (v := (sv eb)) Z Z Z (Gj (T := (Ty.sl FU)) Mb7 W a1 Z Z)) ⟨(Ic Mb2 (Ic Mb4 (Ic Mb5 (Ic Mb6 (Ic Mb9 In0))))), ?_⟩)
             refine Gf 1 13 (by kernel_rfl) ?_ ?_
             ·refine id (Jyq Z (FI (v := (sv c)) Z Z Z (Rb3 Z)) ⟨(Ic Mb2 (Ic Mb4 (Ic Mb5 (Ic Mb6 (Ic Mb9 In0))))), ?_⟩)
              refine Ao 13 Z ?_
              refine F7 (T := FU) (bytes := 88) (q := (wI ((p0.ops.length : Int) - 1)).toNat) Z Z Z aT Mb8 aV (SrcT.row Mb0 ek Z) x Z Z Z Z Z Z Z Z (fun b6 vR du rJ => ⟨_, (.there (.there (.there (.there (.there (.there (.there (.there .here)))))))), ⟨(Ic Mb2 (Ic Mb4 (Ic Mb5 (Ic Mb6 (Ic Mb9 In0))))), ?_⟩⟩)
              refine Aw.shift (Re0 (Sd ⟨(Ic Mb1 (Ic Mb3 (Ic Mb4 (Ic Mb5 (Ic Mb8 In0))))), ?_⟩))
              have gr := W.mono du
              obtain ⟨AI, e5, mt⟩ := RowR.at gr f
              obtain ⟨CO, rfl, ya⟩ := mt
              have zk := FV e5
              refine FP 14 (by kernel_rfl) (Jyq Z (F6 (T := (Ty.sl FU)) Mb6 gr e5 (FSq f).1 Z Z Z Z Z) ⟨(Ic Mb1 (Ic Mb3 (Ic Mb4 (Ic Mb5 (Ic Mb8 In0))))), ?_⟩)
              refine Ao 15 Z ?_
              refine FX (T := (Ty.sl FU)) (vs := [(sv b6)]) (r' := [(sv b6)]) (l' := (Ge p0.ops (wI ((p0.ops.length : Int) - 1)) g)) Z Z Z Z Z (.there (.there (.there (.there (.there (.there .here)))))) gr e5 Z Z Z (RowR.set (wI ((p0.ops.length : Int) - 1)) gr ⟨b6, Z, rJ⟩) (fun jL => ⟨(Ic Mb1 (Ic Mb3 (Ic Mb4 (Ic Mb5 (Ic Mb8 In0))))), ?_⟩)
              have hse := FY e (wI ((p0.ops.length : Int) - 1)).toNat (sv b6)
              rw [hse] at jL ⊢
              clear hse
              have w1 := F3 e5 (v := (sv b6))
              refine Ad<|Pu8<|Pu8<|Pu8<|Pu8<|Pu8<|Pu7<|Pu7<|Pu7<|Re8<|?_
              have rK := V.mono du
              have rL := ((s.mono a).mono A).mono du
              have rM := ((t.mono a).mono A).mono du
              have rN := ((w.mono a).mono A).mono du
              exact Sd ⟨_, by exact R3, ag, k, m, n, j, p0.cnfg.capacities, u, i, p0.cnfg.starts, r, p0.cnfg.threads, c, (Ge p0.ops (wI ((p0.ops.length : Int) - 1)) g), (e.set (wI ((p0.ops.length : Int) - 1)).toNat (sv b6)), h, p0.picks, p, Z, Z, H, rK, rL, rM, jL, rN⟩
             ·refine id (Jy Z ?_)
              refine F7 (T := FU) (bytes := 88) (q := (wI ((p0.ops.length : Int) - 1)).toNat) Z Z Z aT Mb8 aV (SrcT.row Mb0 ek Z) x Z Z Z Z Z Z Z Z (fun b7 vS dv rO => ⟨_, (.there (.there (.there (.there (.there (.there (.there (.there .here)))))))), ⟨(Ic Mb2 (Ic Mb4 (Ic Mb5 (Ic Mb6 (Ic Mb9 In0))))), ?_⟩⟩)
              refine Aw.shift (Re0 (Sd ⟨(Ic Mb1 (Ic Mb3 (Ic Mb4 (Ic Mb5 (Ic Mb8 In0))))), ?_⟩))
              refine FP 1 (by kernel_rfl) (Jyq Z (FI (v := (sv c)) Z Z Z (Rb2 Z)) ⟨(Ic Mb1 (Ic Mb3 (Ic Mb4 (Ic Mb5 (Ic Mb8 In0))))), ?_⟩)
              have gs := W.mono dv
              obtain ⟨AJ, e6, mu⟩ := RowR.at gs f
              obtain ⟨CP, rfl, yb⟩ := mu
              have zl := FV e6
              refine FP 14 (by kernel_rfl) (Jyq Z (F6 (T := (Ty.sl FU)) Mb6 gs e6 (FSq f).1 Z Z Z Z Z) ⟨(Ic Mb1 (Ic Mb3 (Ic Mb4 (Ic Mb5 (Ic Mb8 In0))))), ?_⟩)
              refine Ao 15 Z ?_
              refine FX (T := (Ty.sl FU)) (vs := [(sv b7)]) (r' := [(sv b7)]) (l' := (Ge p0.ops (wI ((p0.ops.length : Int) - 1)) g)) Z Z Z Z Z (.there (.there (.there (.there (.there (.there .here)))))) gs e6 Z Z Z (RowR.set (wI ((p0.ops.length : Int) - 1)) gs ⟨b7, Z, rO⟩) (fun jM => ⟨(Ic Mb1 (Ic Mb3 (Ic Mb4 (Ic Mb5 (Ic Mb8 In0))))), ?_⟩)
              have hse := FY e (wI ((p0.ops.length : Int) - 1)).toNat (sv b7)
              rw [hse] at jM ⊢
              clear hse
              have w2 := F3 e6 (v := (sv b7))
              refine Ad<|Pu8<|Pu8<|Pu8<|Pu8<|Pu8<|Pu7<|Pu7<|Pu7<|Re8<|?_
              have rP := V.mono dv
              have rQ := ((s.mono a).mono A).mono dv
              have rR := ((t.mono a).mono A).mono dv
              have rS := ((w.mono a).mono A).mono dv
              exact Sd ⟨_, by exact R3, ag, k, m, n, j, p0.cnfg.capacities, u, i, p0.cnfg.starts, r, p0.cnfg.threads, c, (Ge p0.ops (wI ((p0.ops.length : Int) - 1)) g), (e.set (wI ((p0.ops.length : Int) - 1)).toNat (sv b7)), h, p0.picks, p, Z, Z, H, rP, rQ, rR, jM, rS⟩
          ·refine id (Jy Z ?_)
           have dY : RowR FU aG [(FM b J L)] [b] := RowR.cons ⟨J, L, Z, aJ, aK⟩ (RowR.nil)
           refine Gl (T := FU) (rows := [(FM b J L)]) (l := [b]) Z Z Z dY Z Z Z Z Z Z Z Z (fun CQ => ⟨(Ic Mb2 (Ic Mb4 (Ic Mb5 (Ic Mb6 (Ic Mb9 In0))))), ?_⟩)
           refine Gf 1 8 (by kernel_rfl) ?_ ?_
           ·refine id (Jyq Z (FI (v := (sv c)) Z Z Z (Rb3 Z)) ⟨(Ic Mb2 (Ic Mb4 (Ic Mb5 (Ic Mb6 (Ic Mb9 In0))))), ?_⟩)
            have gt := y.mono A
            obtain ⟨AK, ho, mv⟩ := RowR.at gt z
            obtain ⟨uY, rfl, rT⟩ := mv
            have uq := FV ho
            refine FP 8 (by kernel_rfl) (Jyq Z (F6 (T := (Ty.sl FU)) Mb7 gt ho (FSq z).1 Z Z Z Z Z) ⟨(Ic Mb2 (Ic Mb4 (Ic Mb5 (Ic Mb6 (Ic Mb9 In0))))), ?_⟩)
            refine FP 9 (by kernel_rfl) (Jyq Z (FI (v := (sv uY)) Z Z Z (Gj (T := (Ty.sl FU)) Mb7 gt ho Z Z)) ⟨(Ic Mb2 (Ic Mb4 (Ic Mb5 (Ic Mb6 (Ic Mb9 In0))))), ?_⟩)
            refine Ao 13 Z ?_
            refine F7 (T := FU) (bytes := 88) (q := (wI ((p0.ops.length : Int) - 1)).toNat) Z Z Z rT Mb8 uq (SrcT.row Mb0 dY Z) x Z Z Z Z Z Z Z Z (fun b8 vT dw rU => ⟨_, (.there (.there (.there (.there (.there (.there (.there (.there .here)))))))), ⟨(Ic Mb2 (Ic Mb4 (Ic Mb5 (Ic Mb6 (Ic Mb9 In0))))), ?_⟩⟩)
            refine Aw.shift (Re0 (Sd ⟨(Ic Mb1 (Ic Mb3 (Ic Mb4 (Ic Mb5 (Ic Mb8 In0))))), ?_⟩))
            have gu := gt.mono dw
            obtain ⟨AL, e7, mw⟩ := RowR.at gu f
            obtain ⟨CR, rfl, yc⟩ := mw
            have zm := FV e7
            refine FP 14 (by kernel_rfl) (Jyq Z (F6 (T := (Ty.sl FU)) Mb6 gu e7 (FSq f).1 Z Z Z Z Z) ⟨(Ic Mb1 (Ic Mb3 (Ic Mb4 (Ic Mb5 (Ic Mb8 In0))))), ?_⟩)
            refine Ao 15 Z ?_
            refine FX (T := (Ty.sl FU)) (vs := [(sv b8)]) (r' := [(sv b8)]) (l' := (Ge p0.ops (wI ((p0.ops.length : Int) - 1)) g)) Z Z Z Z Z (.there (.there (.there (.there (.there (.there .here)))))) gu e7 Z Z Z (RowR.set (wI ((p0.ops.length : Int) - 1)) gu ⟨b8, Z, rU⟩) (fun jN => ⟨(Ic Mb1 (Ic Mb3 (Ic Mb4 (Ic Mb5 (Ic Mb8 In0))))), ?_⟩)
            have hse := FY e (wI ((p0.ops.length : Int) - 1)).toNat (sv b8)
            rw [hse] at jN ⊢
            clear hse
            have w3 := F3 e7 (v := (sv b8))
            refine Ad<|Pu8<|Pu8<|Pu8<|Pu8<|Pu8<|Pu7<|Pu7<|Pu7<|Re8<|?_
            have rV := V.mono dw
            have rW := ((s.mono a).mono A).mono dw
            have rX := ((t.mono a).mono A).mono dw
            have rY := ((w.mono a).mono A).mono dw
            exact Sd ⟨_, by exact R3, ag, k, m, n, j, p0.cnfg.capacities, u, i, p0.cnfg.starts, r, p0.cnfg.threads, c, (Ge p0.ops (wI ((p0.ops.length : Int) - 1)) g), (e.set (wI ((p0.ops.length : Int) - 1)).toNat (sv b8)), h, p0.picks, p, Z, Z, H, rV, rW, rX, jN, rY⟩
           ·have a3 := y.mono A
            obtain ⟨AM, e8, mx⟩ := RowR.at a3 z
            obtain ⟨la, rfl, hF⟩ := mx
            have hK := FV e8
            refine id (Jyq Z (F6 (T := (Ty.sl FU)) Mb7 a3 e8 (FSq z).1 Z Z Z Z Z) ⟨(Ic Mb2 (Ic Mb4 (Ic Mb5 (Ic Mb6 (Ic Mb9 In0))))), ?_⟩)
            refine Gf 1 9 (by kernel_rfl) ?_ ?_
            ·refine id (Jyq Z (FI (v := (sv c)) Z Z Z (Rb3 Z)) ⟨(Ic Mb2 (Ic Mb4 (Ic Mb5 (Ic Mb6 (Ic Mb9 In0))))), ?_⟩)
             refine FP 9 (by kernel_rfl) (Jyq Z (FI (v := (sv la)) Z Z Z (Gj (T := (Ty.sl FU)) Mb7 a3 e8 Z Z)) ⟨(Ic Mb2 (Ic Mb4 (Ic Mb5 (Ic Mb6 (Ic Mb9 In0))))), ?_⟩)
             refine Ao 13 Z ?_
             refine F7 (T := FU) (bytes := 88) (q := (wI ((p0.ops.length : Int) - 1)).toNat) Z Z Z hF Mb8 hK (SrcT.row Mb0 dY Z) x Z Z Z Z Z Z Z Z (fun b9 vU dx rZ => ⟨_, (.there (.there (.there (.there (.there (.there (.there (.there .here)))))))), ⟨(Ic Mb2 (Ic Mb4 (Ic Mb5 (Ic Mb6 (Ic Mb9 In0))))), ?_⟩⟩)
             refine Aw.shift (Re0 (Sd ⟨(Ic Mb1 (Ic Mb3 (Ic Mb4 (Ic Mb5 (Ic Mb8 In0))))), ?_⟩))
             have gv := a3.mono dx
             obtain ⟨AN, e9, my⟩ := RowR.at gv f
             obtain ⟨CS, rfl, yd⟩ := my
             have zn := FV e9
             refine FP 14 (by kernel_rfl) (Jyq Z (F6 (T := (Ty.sl FU)) Mb6 gv e9 (FSq f).1 Z Z Z Z Z) ⟨(Ic Mb1 (Ic Mb3 (Ic Mb4 (Ic Mb5 (Ic Mb8 In0))))), ?_⟩)
             refine Ao 15 Z ?_
             refine FX (T := (Ty.sl FU)) (vs := [(sv b9)]) (r' := [(sv b9)]) (l' := (Ge p0.ops (wI ((p0.ops.length : Int) - 1)) g)) Z Z Z Z Z (.there (.there (.there (.there (.there (.there .here)))))) gv e9 Z Z Z (RowR.set (wI ((p0.ops.length : Int) - 1)) gv ⟨b9, Z, rZ⟩) (fun jO => ⟨(Ic Mb1 (Ic Mb3 (Ic Mb4 (Ic Mb5 (Ic Mb8 In0))))), ?_⟩)
             have hse := FY e (wI ((p0.ops.length : Int) - 1)).toNat (sv b9)
             rw [hse] at jO ⊢
             clear hse
             have w4 := F3 e9 (v := (sv b9))
             refine Ad<|Pu8<|Pu8<|Pu8<|Pu8<|Pu8<|Pu7<|Pu7<|Pu7<|Re8<|?_
             have r0 := V.mono dx
             have r1 := ((s.mono a).mono A).mono dx
             have r2 := ((t.mono a).mono A).mono dx
             have r3 := ((w.mono a).mono A).mono dx
             exact Sd ⟨_, by exact R3, ag, k, m, n, j, p0.cnfg.capacities, u, i, p0.cnfg.starts, r, p0.cnfg.threads, c, (Ge p0.ops (wI ((p0.ops.length : Int) - 1)) g), (e.set (wI ((p0.ops.length : Int) - 1)).toNat (sv b9)), h, p0.picks, p, Z, Z, H, r0, r1, r2, jO, r3⟩
            ·refine id (Jyq Z (FI (v := (sv la)) Z Z Z (Gj (T := (Ty.sl FU)) Mb7 a3 e8 Z Z)) ⟨(Ic Mb2 (Ic Mb4 (Ic Mb5 (Ic Mb6 (Ic Mb9 In0))))), ?_⟩)
             refine Gf 1 13 (by kernel_rfl) ?_ ?_
             ·refine id (Jyq Z (FI (v := (sv c)) Z Z Z (Rb3 Z)) ⟨(Ic Mb2 (Ic Mb4 (Ic Mb5 (Ic Mb6 (Ic Mb9 In0))))), ?_⟩)
              refine Ao 13 Z ?_
              refine F7 (T := FU) (bytes := 88) (q := (wI ((p0.ops.length : Int) - 1)).toNat) Z Z Z hF Mb8 hK (SrcT.row Mb0 dY Z) x Z Z Z Z Z Z Z Z (fun ca vV dy r4 => ⟨_, (.there (.there (.there (.there (.there (.there (.there (.there .here)))))))), ⟨(Ic Mb2 (Ic Mb4 (Ic Mb5 (Ic Mb6 (Ic Mb9 In0))))), ?_⟩⟩)
              refine Aw.shift (Re0 (Sd ⟨(Ic Mb1 (Ic Mb3 (Ic Mb4 (Ic Mb5 (Ic Mb8 In0))))), ?_⟩))
              have gw := a3.mono dy
              obtain ⟨AO, fa, mz⟩ := RowR.at gw f
              obtain ⟨CT, rfl, ye⟩ := mz
              have zo := FV fa
              refine FP 14 (by kernel_rfl) (Jyq Z (F6 (T := (Ty.sl FU)) Mb6 gw fa (FSq f).1 Z Z Z Z Z) ⟨(Ic Mb1 (Ic Mb3 (Ic Mb4 (Ic Mb5 (Ic Mb8 In0))))), ?_⟩)
              refine Ao 15 Z ?_
              refine FX (T := (Ty.sl FU)) (vs := [(sv ca)]) (r' := [(sv ca)]) (l' := (Ge p0.ops (wI ((p0.ops.length : Int) - 1)) g)) Z Z Z Z Z (.there (.there (.there (.there (.there (.there .here)))))) gw fa Z Z Z (RowR.set (wI ((p0.ops.length : Int) - 1)) gw ⟨ca, Z, r4⟩) (fun jP => ⟨(Ic Mb1 (Ic Mb3 (Ic Mb4 (Ic Mb5 (Ic Mb8 In0))))), ?_⟩)
              have hse := FY e (wI ((p0.ops.length : Int) - 1)).toNat (sv ca)
              rw [hse] at jP ⊢
              clear hse
              have w5 := F3 fa (v := (sv ca))
              refine Ad<|Pu8<|Pu8<|Pu8<|Pu8<|Pu8<|Pu7<|Pu7<|Pu7<|Re8<|?_
              have r5 := V.mono dy
              have r6 := ((s.mono a).mono A).mono dy
              have r7 := ((t.mono a).mono A).mono dy
              have r8 := ((w.mono a).mono A).mono dy
              exact Sd ⟨_, by exact R3, ag, k, m, n, j, p0.cnfg.capacities, u, i, p0.cnfg.starts, r, p0.cnfg.threads, c, (Ge p0.ops (wI ((p0.ops.length : Int) - 1)) g), (e.set (wI ((p0.ops.length : Int) - 1)).toNat (sv ca)), h, p0.picks, p, Z, Z, H, r5, r6, r7, jP, r8⟩
             ·refine id (Jy Z ?_)
              refine F7 (T := FU) (bytes := 88) (q := (wI ((p0.ops.length : Int) - 1)).toNat) Z Z Z hF Mb8 hK (SrcT.row Mb0 dY Z) x Z Z Z Z Z Z Z Z (fun cb vW dz r9 => ⟨_, (.there (.there (.there (.there (.there (.there (.there (.there .here)))))))), ⟨(Ic Mb2 (Ic Mb4 (Ic Mb5 (Ic Mb6 (Ic Mb9 In0))))), ?_⟩⟩)
              refine Aw.shift (Re0 (Sd ⟨(Ic Mb1 (Ic Mb3 (Ic Mb4 (Ic Mb5 (Ic Mb8 In0))))), ?_⟩))
              refine FP 1 (by kernel_rfl) (Jyq Z (FI (v := (sv c)) Z Z Z (Rb2 Z)) ⟨(Ic Mb1 (Ic Mb3 (Ic Mb4 (Ic Mb5 (Ic Mb8 In0))))), ?_⟩)
              have gx := a3.mono dz
              obtain ⟨AP, fb, mA⟩ := RowR.at gx f
              obtain ⟨CU, rfl, yf⟩ := mA
              have zp := FV fb
              refine FP 14 (by kernel_rfl) (Jyq Z (F6 (T := (Ty.sl FU)) Mb6 gx fb (FSq f).1 Z Z Z Z Z) ⟨(Ic Mb1 (Ic Mb3 (Ic Mb4 (Ic Mb5 (Ic Mb8 In0))))), ?_⟩)
              refine Ao 15 Z ?_
              refine FX (T := (Ty.sl FU)) (vs := [(sv cb)]) (r' := [(sv cb)]) (l' := (Ge p0.ops (wI ((p0.ops.length : Int) - 1)) g)) Z Z Z Z Z (.there (.there (.there (.there (.there (.there .here)))))) gx fb Z Z Z (RowR.set (wI ((p0.ops.length : Int) - 1)) gx ⟨cb, Z, r9⟩) (fun jQ => ⟨(Ic Mb1 (Ic Mb3 (Ic Mb4 (Ic Mb5 (Ic Mb8 In0))))), ?_⟩)
              have hse := FY e (wI ((p0.ops.length : Int) - 1)).toNat (sv cb)
              rw [hse] at jQ ⊢
              clear hse
              have w6 := F3 fb (v := (sv cb))
              refine Ad<|Pu8<|Pu8<|Pu8<|Pu8<|Pu8<|Pu7<|Pu7<|Pu7<|Re8<|?_
              have sa := V.mono dz
              have sb := ((s.mono a).mono A).mono dz
              have sc := ((t.mono a).mono A).mono dz
              have sd := ((w.mono a).mono A).mono dz
              exact Sd ⟨_, by exact R3, ag, k, m, n, j, p0.cnfg.capacities, u, i, p0.cnfg.starts, r, p0.cnfg.threads, c, (Ge p0.ops (wI ((p0.ops.length : Int) - 1)) g), (e.set (wI ((p0.ops.length : Int) - 1)).toNat (sv cb)), h, p0.picks, p, Z, Z, H, sa, sb, sc, jQ, sd⟩
        ·refine id (Jy Z ?_)
         refine Ek Tryz.call61 Z (Hh E (FO.mk F P false) I b k m n al _ _ O) ?_
         rintro _ ai _ o ⟨B, C, N, rfl, rfl, aj, ak, M⟩
         refine ⟨(Ic Mb1 (Ic Mb3 (Ic Mb4 (Ic Mb5 (Ic Mb8 In0))))), ?_⟩
         refine GG 1 5 12 (by kernel_rfl) ?_ ?_ ?_
         ·refine id (Jyq Z (FI (v := (sv c)) Z Z Z (Rb2 Z)) ⟨(Ic Mb1 (Ic Mb3 (Ic Mb4 (Ic Mb5 (Ic Mb8 In0))))), ?_⟩)
          refine Gf 5 12 (by kernel_rfl) ?_ ?_
          ·refine id (Jyq Z (FI (v := (sv c)) Z Z Z (Rb2 Z)) ⟨(Ic Mb1 (Ic Mb3 (Ic Mb4 (Ic Mb5 (Ic Mb8 In0))))), ?_⟩)
           refine Gf 8 12 (by kernel_rfl) ?_ ?_
           ·have bd := y.mono o
            obtain ⟨AQ, fc, mB⟩ := RowR.at bd z
            obtain ⟨lb, rfl, kP⟩ := mB
            have kV := FV fc
            refine id (Jyq Z (F6 (T := (Ty.sl FU)) Mb6 bd fc (FSq z).1 Z Z Z Z Z) ⟨(Ic Mb1 (Ic Mb3 (Ic Mb4 (Ic Mb5 (Ic Mb8 In0))))), ?_⟩)
            refine Gf 9 12 (by kernel_rfl) ?_ ?_
            ·refine id (Jyq Z (FI (v := (sv lb)) Z Z Z (Gj (T := (Ty.sl FU)) Mb6 bd fc Z Z)) ⟨(Ic Mb1 (Ic Mb3 (Ic Mb4 (Ic Mb5 (Ic Mb8 In0))))), ?_⟩)
             refine Ao 12 Z ?_
             have jR : RowR FU ai [(FM b B C)] [b] := RowR.cons ⟨B, C, Z, aj, ak⟩ (RowR.nil)
             refine Gl (T := FU) (rows := [(FM b B C)]) (l := [b]) Z Z Z jR Z Z Z Z Z Z Z Z (fun CV => ⟨(Ic Mb2 (Ic Mb4 (Ic Mb5 (Ic Mb6 (Ic Mb9 In0))))), ?_⟩)
             refine Ao 13 Z ?_
             refine F7 (T := FU) (bytes := 88) (q := (wI ((p0.ops.length : Int) - 1)).toNat) Z Z Z kP Mb8 kV (SrcT.row Mb0 jR Z) x Z Z Z Z Z Z Z Z (fun cc vX dA se => ⟨_, (.there (.there (.there (.there (.there (.there (.there (.there .here)))))))), ⟨(Ic Mb2 (Ic Mb4 (Ic Mb5 (Ic Mb6 (Ic Mb9 In0))))), ?_⟩⟩)
             refine Aw.shift (Re0 (Sd ⟨(Ic Mb1 (Ic Mb3 (Ic Mb4 (Ic Mb5 (Ic Mb8 In0))))), ?_⟩))
             have gy := bd.mono dA
             obtain ⟨AR, fd, mC⟩ := RowR.at gy f
             obtain ⟨CW, rfl, yg⟩ := mC
             have zq := FV fd
             refine FP 14 (by kernel_rfl) (Jyq Z (F6 (T := (Ty.sl FU)) Mb6 gy fd (FSq f).1 Z Z Z Z Z) ⟨(Ic Mb1 (Ic Mb3 (Ic Mb4 (Ic Mb5 (Ic Mb8 In0))))), ?_⟩)
             refine Ao 15 Z ?_
             refine FX (T := (Ty.sl FU)) (vs := [(sv cc)]) (r' := [(sv cc)]) (l' := (Ge p0.ops (wI ((p0.ops.length : Int) - 1)) g)) Z Z Z Z Z (.there (.there (.there (.there (.there (.there .here)))))) gy fd Z Z Z (RowR.set (wI ((p0.ops.length : Int) - 1)) gy ⟨cc, Z, se⟩) (fun jS => ⟨(Ic Mb1 (Ic Mb3 (Ic Mb4 (Ic Mb5 (Ic Mb8 In0))))), ?_⟩)
             have hse := FY e (wI ((p0.ops.length : Int) - 1)).toNat (sv cc)
             rw [hse] at jS ⊢
             clear hse
             have w7 := F3 fd (v := (sv cc))
             refine Ad<|Pu8<|Pu8<|Pu8<|Pu8<|Pu8<|Pu7<|Pu7<|Pu7<|Re8<|?_
             have sf := M.mono dA
             have sg := ((s.mono a).mono o).mono dA
             have sh := ((t.mono a).mono o).mono dA
             have si := ((w.mono a).mono o).mono dA
             exact Sd ⟨_, by exact R3, N, k, m, n, j, p0.cnfg.capacities, u, i, p0.cnfg.starts, r, p0.cnfg.threads, c, (Ge p0.ops (wI ((p0.ops.length : Int) - 1)) g), (e.set (wI ((p0.ops.length : Int) - 1)).toNat (sv cc)), h, p0.picks, p, Z, Z, H, sf, sg, sh, jS, si⟩
            ·refine id (Jy Z ?_)
             have jT : RowR FU ai [(FM b B C)] [b] := RowR.cons ⟨B, C, Z, aj, ak⟩ (RowR.nil)
             refine Gl (T := FU) (rows := [(FM b B C)]) (l := [b]) Z Z Z jT Z Z Z Z Z Z Z Z (fun CX => ⟨(Ic Mb2 (Ic Mb4 (Ic Mb5 (Ic Mb6 (Ic Mb9 In0))))), ?_⟩)
             refine FP 9 (by kernel_rfl) (Jyq Z (FI (v := (sv lb)) Z Z Z (Gj (T := (Ty.sl FU)) Mb7 bd fc Z Z)) ⟨(Ic Mb2 (Ic Mb4 (Ic Mb5 (Ic Mb6 (Ic Mb9 In0))))), ?_⟩)
             refine Ao 13 Z ?_
             refine F7 (T := FU) (bytes := 88) (q := (wI ((p0.ops.length : Int) - 1)).toNat) Z Z Z kP Mb8 kV (SrcT.row Mb0 jT Z) x Z Z Z Z Z Z Z Z (fun cd vY dB sj => ⟨_, (.there (.there (.there (.there (.there (.there (.there (.there .here)))))))), ⟨(Ic Mb2 (Ic Mb4 (Ic Mb5 (Ic Mb6 (Ic Mb9 In0))))), ?_⟩⟩)
             refine Aw.shift (Re0 (Sd ⟨(Ic Mb1 (Ic Mb3 (Ic Mb4 (Ic Mb5 (Ic Mb8 In0))))), ?_⟩))
             have gz := bd.mono dB
             obtain ⟨AS, fe, mD⟩ := RowR.at gz f
             obtain ⟨CY, rfl, yh⟩ := mD
             have zr := FV fe
             refine FP 14 (by kernel_rfl) (Jyq Z (F6 (T := (Ty.sl FU)) Mb6 gz fe (FSq f).1 Z Z Z Z Z) ⟨(Ic Mb1 (Ic Mb3 (Ic Mb4 (Ic Mb5 (Ic Mb8 In0))))), ?_⟩)
             refine Ao 15 Z ?_
             refine FX (T := (Ty.sl FU)) (vs := [(sv cd)]) (r' := [(sv cd)]) (l' := (Ge p0.ops (wI ((p0.ops.length : Int) - 1)) g)) Z Z Z Z Z (.there (.there (.there (.there (.there (.there .here)))))) gz fe Z Z Z (RowR.set (wI ((p0.ops.length : Int) - 1)) gz ⟨cd, Z, sj⟩) (fun jU => ⟨(Ic Mb1 (Ic Mb3 (Ic Mb4 (Ic Mb5 (Ic Mb8 In0))))), ?_⟩)
             have hse := FY e (wI ((p0.ops.length : Int) - 1)).toNat (sv cd)
             rw [hse] at jU ⊢
             clear hse
             have w8 := F3 fe (v := (sv cd))
             refine Ad<|Pu8<|Pu8<|Pu8<|Pu8<|Pu8<|Pu7<|Pu7<|Pu7<|Re8<|?_
             have sk := M.mono dB
             have sm := ((s.mono a).mono o).mono dB
             have sn := ((t.mono a).mono o).mono dB
             have so := ((w.mono a).mono o).mono dB
             exact Sd ⟨_, by exact R3, N, k, m, n, j, p0.cnfg.capacities, u, i, p0.cnfg.starts, r, p0.cnfg.threads, c, (Ge p0.ops (wI ((p0.ops.length : Int) - 1)) g), (e.set (wI ((p0.ops.length : Int) - 1)).toNat (sv cd)), h, p0.picks, p, Z, Z, H, sk, sm, sn, jU, so⟩
           ·refine id (Jy Z ?_)
            have jV : RowR FU ai [(FM b B C)] [b] := RowR.cons ⟨B, C, Z, aj, ak⟩ (RowR.nil)
            refine Gl (T := FU) (rows := [(FM b B C)]) (l := [b]) Z Z Z jV Z Z Z Z Z Z Z Z (fun CZ => ⟨(Ic Mb2 (Ic Mb4 (Ic Mb5 (Ic Mb6 (Ic Mb9 In0))))), ?_⟩)
            have gA := y.mono o
            obtain ⟨AT, hp, mE⟩ := RowR.at gA z
            obtain ⟨uZ, rfl, sp⟩ := mE
            have ur := FV hp
            refine FP 8 (by kernel_rfl) (Jyq Z (F6 (T := (Ty.sl FU)) Mb7 gA hp (FSq z).1 Z Z Z Z Z) ⟨(Ic Mb2 (Ic Mb4 (Ic Mb5 (Ic Mb6 (Ic Mb9 In0))))), ?_⟩)
            refine FP 9 (by kernel_rfl) (Jyq Z (FI (v := (sv uZ)) Z Z Z (Gj (T := (Ty.sl FU)) Mb7 gA hp Z Z)) ⟨(Ic Mb2 (Ic Mb4 (Ic Mb5 (Ic Mb6 (Ic Mb9 In0))))), ?_⟩)
            refine Ao 13 Z ?_
            refine F7 (T := FU) (bytes := 88) (q := (wI ((p0.ops.length : Int) - 1)).toNat) Z Z Z sp Mb8 ur (SrcT.row Mb0 jV Z) x Z Z Z Z Z Z Z Z (fun ce vZ dC sq => ⟨_, (.there (.there (.there (.there (.there (.there (.there (.there .here)))))))), ⟨(Ic Mb2 (Ic Mb4 (Ic Mb5 (Ic Mb6 (Ic Mb9 In0))))), ?_⟩⟩)
            refine Aw.shift (Re0 (Sd ⟨(Ic Mb1 (Ic Mb3 (Ic Mb4 (Ic Mb5 (Ic Mb8 In0))))), ?_⟩))
            have gB := gA.mono dC
            obtain ⟨AU, ff, mF⟩ := RowR.at gB f
            obtain ⟨C0, rfl, yi⟩ := mF
            have zs := FV ff
            refine FP 14 (by kernel_rfl) (Jyq Z (F6 (T := (Ty.sl FU)) Mb6 gB ff (FSq f).1 Z Z Z Z Z) ⟨(Ic Mb1 (Ic Mb3 (Ic Mb4 (Ic Mb5 (Ic Mb8 In0))))), ?_⟩)
            refine Ao 15 Z ?_
            refine FX (T := (Ty.sl FU)) (vs := [(sv ce)]) (r' := [(sv ce)]) (l' := (Ge p0.ops (wI ((p0.ops.length : Int) - 1)) g)) Z Z Z Z Z (.there (.there (.there (.there (.there (.there .here)))))) gB ff Z Z Z (RowR.set (wI ((p0.ops.length : Int) - 1)) gB ⟨ce, Z, sq⟩) (fun jW => ⟨(Ic Mb1 (Ic Mb3 (Ic Mb4 (Ic Mb5 (Ic Mb8 In0))))), ?_⟩)
            have hse := FY e (wI ((p0.ops.length : Int) - 1)).toNat (sv ce)
            rw [hse] at jW ⊢
            clear hse
            have w9 := F3 ff (v := (sv ce))
            refine Ad<|Pu8<|Pu8<|Pu8<|Pu8<|Pu8<|Pu7<|Pu7<|Pu7<|Re8<|?_
            have sr := M.mono dC
            have ss := ((s.mono a).mono o).mono dC
            have st := ((t.mono a).mono o).mono dC
            have su := ((w.mono a).mono o).mono dC
            exact Sd ⟨_, by exact R3, N, k, m, n, j, p0.cnfg.capacities, u, i, p0.cnfg.starts, r, p0.cnfg.threads, c, (Ge p0.ops (wI ((p0.ops.length : Int) - 1)) g), (e.set (wI ((p0.ops.length : Int) - 1)).toNat (sv ce)), h, p0.picks, p, Z, Z, H, sr, ss, st, jW, su⟩
          ·refine id (Jy Z ?_)
           have jX : RowR FU ai [(FM b B C)] [b] := RowR.cons ⟨B, C, Z, aj, ak⟩ (RowR.nil)
           refine Gl (T := FU) (rows := [(FM b B C)]) (l := [b]) Z Z Z jX Z Z Z Z Z Z Z Z (fun C1 => ⟨(Ic Mb2 (Ic Mb4 (Ic Mb5 (Ic Mb6 (Ic Mb9 In0))))), ?_⟩)
           refine FP 5 (by kernel_rfl) (Jyq Z (FI (v := (sv c)) Z Z Z (Rb3 Z)) ⟨(Ic Mb2 (Ic Mb4 (Ic Mb5 (Ic Mb6 (Ic Mb9 In0))))), ?_⟩)
           have gC := y.mono o
           obtain ⟨AV, hq, mG⟩ := RowR.at gC z
           obtain ⟨u0, rfl, sw⟩ := mG
           have us := FV hq
           refine FP 8 (by kernel_rfl) (Jyq Z (F6 (T := (Ty.sl FU)) Mb7 gC hq (FSq z).1 Z Z Z Z Z) ⟨(Ic Mb2 (Ic Mb4 (Ic Mb5 (Ic Mb6 (Ic Mb9 In0))))), ?_⟩)
           refine FP 9 (by kernel_rfl) (Jyq Z (FI (v := (sv u0)) Z Z Z (Gj (T := (Ty.sl FU)) Mb7 gC hq Z Z)) ⟨(Ic Mb2 (Ic Mb4 (Ic Mb5 (Ic Mb6 (Ic Mb9 In0))))), ?_⟩)
           refine Ao 13 Z ?_
           refine F7 (T := FU) (bytes := 88) (q := (wI ((p0.ops.length : Int) - 1)).toNat) Z Z Z sw Mb8 us (SrcT.row Mb0 jX Z) x Z Z Z Z Z Z Z Z (fun cf v0 dD sx => ⟨_, (.there (.there (.there (.there (.there (.there (.there (.there .here)))))))), ⟨(Ic Mb2 (Ic Mb4 (Ic Mb5 (Ic Mb6 (Ic Mb9 In0))))), ?_⟩⟩)
           refine Aw.shift (Re0 (Sd ⟨(Ic Mb1 (Ic Mb3 (Ic Mb4 (Ic Mb5 (Ic Mb8 In0))))), ?_⟩))
           have gD := gC.mono dD
           obtain ⟨AW, fg, mH⟩ := RowR.at gD f
           obtain ⟨C2, rfl, yj⟩ := mH
           have zt := FV fg
           refine FP 14 (by kernel_rfl) (Jyq Z (F6 (T := (Ty.sl FU)) Mb6 gD fg (FSq f).1 Z Z Z Z Z) ⟨(Ic Mb1 (Ic Mb3 (Ic Mb4 (Ic Mb5 (Ic Mb8 In0))))), ?_⟩)
           refine Ao 15 Z ?_
           refine FX (T := (Ty.sl FU)) (vs := [(sv cf)]) (r' := [(sv cf)]) (l' := (Ge p0.ops (wI ((p0.ops.length : Int) - 1)) g)) Z Z Z Z Z (.there (.there (.there (.there (.there (.there .here)))))) gD fg Z Z Z (RowR.set (wI ((p0.ops.length : Int) - 1)) gD ⟨cf, Z, sx⟩) (fun jY => ⟨(Ic Mb1 (Ic Mb3 (Ic Mb4 (Ic Mb5 (Ic Mb8 In0))))), ?_⟩)
           have hse := FY e (wI ((p0.ops.length : Int) - 1)).toNat (sv cf)
           rw [hse] at jY ⊢
           clear hse
           have xa := F3 fg (v := (sv cf))
           refine Ad<|Pu8<|Pu8<|Pu8<|Pu8<|Pu8<|Pu7<|Pu7<|Pu7<|Re8<|?_
           have sy := M.mono dD
           have sz := ((s.mono a).mono o).mono dD
           have sA := ((t.mono a).mono o).mono dD
           have sB := ((w.mono a).mono o).mono dD
           exact Sd ⟨_, by exact R3, N, k, m, n, j, p0.cnfg.capacities, u, i, p0.cnfg.starts, r, p0.cnfg.threads, c, (Ge p0.ops (wI ((p0.ops.length : Int) - 1)) g), (e.set (wI ((p0.ops.length : Int) - 1)).toNat (sv cf)), h, p0.picks, p, Z, Z, H, sy, sz, sA, jY, sB⟩
         ·refine id (Jyq Z (FI (v := (sv c)) Z Z Z (Rb2 Z)) ⟨(Ic Mb1 (Ic Mb3 (Ic Mb4 (Ic Mb5 (Ic Mb8 In0))))), ?_⟩)
          refine GG 1 8 12 (by kernel_rfl) ?_ ?_ ?_
          ·refine id (Jyq Z (FI (v := (sv c)) Z Z Z (Rb2 Z)) ⟨(Ic Mb1 (Ic Mb3 (Ic Mb4 (Ic Mb5 (Ic Mb8 In0))))), ?_⟩)
           refine Gf 8 12 (by kernel_rfl) ?_ ?_
           ·have be := y.mono o
            obtain ⟨AX, fh, mI⟩ := RowR.at be z
            obtain ⟨lc, rfl, kQ⟩ := mI
            have kW := FV fh
            refine id (Jyq Z (F6 (T := (Ty.sl FU)) Mb6 be fh (FSq z).1 Z Z Z Z Z) ⟨(Ic Mb1 (Ic Mb3 (Ic Mb4 (Ic Mb5 (Ic Mb8 In0))))), ?_⟩)
            refine Gf 9 12 (by kernel_rfl) ?_ ?_
            ·refine id (Jyq Z (FI (v := (sv lc)) Z Z Z (Gj (T := (Ty.sl FU)) Mb6 be fh Z Z)) ⟨(Ic Mb1 (Ic Mb3 (Ic Mb4 (Ic Mb5 (Ic Mb8 In0))))), ?_⟩)
             refine Ao 12 Z ?_
             have jZ : RowR FU ai [(FM b B C)] [b] := RowR.cons ⟨B, C, Z, aj, ak⟩ (RowR.nil)
             refine Gl (T := FU) (rows := [(FM b B C)]) (l := [b]) Z Z Z jZ Z Z Z Z Z Z Z Z (fun C3 => ⟨(Ic Mb2 (Ic Mb4 (Ic Mb5 (Ic Mb6 (Ic Mb9 In0))))), ?_⟩)
             refine Ao 13 Z ?_
             refine F7 (T := FU) (bytes := 88) (q := (wI ((p0.ops.length : Int) - 1)).toNat) Z Z Z kQ Mb8 kW (SrcT.row Mb0 jZ Z) x Z Z Z Z Z Z Z Z (fun cg v1 dE sC => ⟨_, (.there (.there (.there (.there (.there (.there (.there (.there .here)))))))), ⟨(Ic Mb2 (Ic Mb4 (Ic Mb5 (Ic Mb6 (Ic Mb9 In0))))), ?_⟩⟩)
             refine Aw.shift (Re0 (Sd ⟨(Ic Mb1 (Ic Mb3 (Ic Mb4 (Ic Mb5 (Ic Mb8 In0))))), ?_⟩))
             have gE := be.mono dE
             obtain ⟨AY, fi, mJ⟩ := RowR.at gE f
             obtain ⟨C4, rfl, yk⟩ := mJ
             have zu := FV fi
             refine FP 14 (by kernel_rfl) (Jyq Z (F6 (T := (Ty.sl FU)) Mb6 gE fi (FSq f).1 Z Z Z Z Z) ⟨(Ic Mb1 (Ic Mb3 (Ic Mb4 (Ic Mb5 (Ic Mb8 In0))))), ?_⟩)
             refine Ao 15 Z ?_
             refine FX (T := (Ty.sl FU)) (vs := [(sv cg)]) (r' := [(sv cg)]) (l' := (Ge p0.ops (wI ((p0.ops.length : Int) - 1)) g)) Z Z Z Z Z (.there (.there (.there (.there (.there (.there .here)))))) gE fi Z Z Z (RowR.set (wI ((p0.ops.length : Int) - 1)) gE ⟨cg, Z, sC⟩) (fun j0 => ⟨(Ic Mb1 (Ic Mb3 (Ic Mb4 (Ic Mb5 (Ic Mb8 In0))))), ?_⟩)
             have hse := FY e (wI ((p0.ops.length : Int) - 1)).toNat (sv cg)
             rw [hse] at j0 ⊢
             clear hse
             have xb := F3 fi (v := (sv cg))
             refine Ad<|Pu8<|Pu8<|Pu8<|Pu8<|Pu8<|Pu7<|Pu7<|Pu7<|Re8<|?_
             have sD := M.mono dE
             have sE := ((s.mono a).mono o).mono dE
             have sF := ((t.mono a).mono o).mono dE
             have sG := ((w.mono a).mono o).mono dE
             exact Sd ⟨_, by exact R3, N, k, m, n, j, p0.cnfg.capacities, u, i, p0.cnfg.starts, r, p0.cnfg.threads, c, (Ge p0.ops (wI ((p0.ops.length : Int) - 1)) g), (e.set (wI ((p0.ops.length : Int) - 1)).toNat (sv cg)), h, p0.picks, p, Z, Z, H, sD, sE, sF, j0, sG⟩
            ·refine id (Jy Z ?_)
             have j1 : RowR FU ai [(FM b B C)] [b] := RowR.cons ⟨B, C, Z, aj, ak⟩ (RowR.nil)
             refine Gl (T := FU) (rows := [(FM b B C)]) (l := [b]) Z Z Z j1 Z Z Z Z Z Z Z Z (fun C5 => ⟨(Ic Mb2 (Ic Mb4 (Ic Mb5 (Ic Mb6 (Ic Mb9 In0))))), ?_⟩)
             refine FP 9 (by kernel_rfl) (Jyq Z (FI (v := (sv lc)) Z Z Z (Gj (T := (Ty.sl FU)) Mb7 be fh Z Z)) ⟨(Ic Mb2 (Ic Mb4 (Ic Mb5 (Ic Mb6 (Ic Mb9 In0))))), ?_⟩)
             refine Ao 13 Z ?_
             refine F7 (T := FU) (bytes := 88) (q := (wI ((p0.ops.length : Int) - 1)).toNat) Z Z Z kQ Mb8 kW (SrcT.row Mb0 j1 Z) x Z Z Z Z Z Z Z Z (fun ch v2 dF sH => ⟨_, (.there (.there (.there (.there (.there (.there (.there (.there .here)))))))), ⟨(Ic Mb2 (Ic Mb4 (Ic Mb5 (Ic Mb6 (Ic Mb9 In0))))), ?_⟩⟩)
             refine Aw.shift (Re0 (Sd ⟨(Ic Mb1 (Ic Mb3 (Ic Mb4 (Ic Mb5 (Ic Mb8 In0))))), ?_⟩))
             have gF := be.mono dF
             obtain ⟨AZ, fj, mK⟩ := RowR.at gF f
             obtain ⟨C6, rfl, yl⟩ := mK
             have zv := FV fj
             refine FP 14 (by kernel_rfl) (Jyq Z (F6 (T := (Ty.sl FU)) Mb6 gF fj (FSq f).1 Z Z Z Z Z) ⟨(Ic Mb1 (Ic Mb3 (Ic Mb4 (Ic Mb5 (Ic Mb8 In0))))), ?_⟩)
             refine Ao 15 Z ?_
             refine FX (T := (Ty.sl FU)) (vs := [(sv ch)]) (r' := [(sv ch)]) (l' := (Ge p0.ops (wI ((p0.ops.length : Int) - 1)) g)) Z Z Z Z Z (.there (.there (.there (.there (.there (.there .here)))))) gF fj Z Z Z (RowR.set (wI ((p0.ops.length : Int) - 1)) gF ⟨ch, Z, sH⟩) (fun j2 => ⟨(Ic Mb1 (Ic Mb3 (Ic Mb4 (Ic Mb5 (Ic Mb8 In0))))), ?_⟩)
             have hse := FY e (wI ((p0.ops.length : Int) - 1)).toNat (sv ch)
             rw [hse] at j2 ⊢
             clear hse
             have xc := F3 fj (v := (sv ch))
             refine Ad<|Pu8<|Pu8<|Pu8<|Pu8<|Pu8<|Pu7<|Pu7<|Pu7<|Re8<|?_
             have sI := M.mono dF
             have sJ := ((s.mono a).mono o).mono dF
             have sK := ((t.mono a).mono o).mono dF
             have sL := ((w.mono a).mono o).mono dF
             exact Sd ⟨_, by exact R3, N, k, m, n, j, p0.cnfg.capacities, u, i, p0.cnfg.starts, r, p0.cnfg.threads, c, (Ge p0.ops (wI ((p0.ops.length : Int) - 1)) g), (e.set (wI ((p0.ops.length : Int) - 1)).toNat (sv ch)), h, p0.picks, p, Z, Z, H, sI, sJ, sK, j2, sL⟩
           ·refine id (Jy Z ?_)
            have j3 : RowR FU ai [(FM b B C)] [b] := RowR.cons ⟨B, C, Z, aj, ak⟩ (RowR.nil)
            refine Gl (T := FU) (rows := [(FM b B C)]) (l := [b]) Z Z Z j3 Z Z Z Z Z Z Z Z (fun C7 => ⟨(Ic Mb2 (Ic Mb4 (Ic Mb5 (Ic Mb6 (Ic Mb9 In0))))), ?_⟩)
            have gG := y.mono o
            obtain ⟨A0, hr, mL⟩ := RowR.at gG z
            obtain ⟨u1, rfl, sM⟩ := mL
            have ut := FV hr
            refine FP 8 (by kernel_rfl) (Jyq Z (F6 (T := (Ty.sl FU)) Mb7 gG hr (FSq z).1 Z Z Z Z Z) ⟨(Ic Mb2 (Ic Mb4 (Ic Mb5 (Ic Mb6 (Ic Mb9 In0))))), ?_⟩)
            refine FP 9 (by kernel_rfl) (Jyq Z (FI (v := (sv u1)) Z Z Z (Gj (T := (Ty.sl FU)) Mb7 gG hr Z Z)) ⟨(Ic Mb2 (Ic Mb4 (Ic Mb5 (Ic Mb6 (Ic Mb9 In0))))), ?_⟩)
            refine Ao 13 Z ?_
            refine F7 (T := FU) (bytes := 88) (q := (wI ((p0.ops.length : Int) - 1)).toNat) Z Z Z sM Mb8 ut (SrcT.row Mb0 j3 Z) x Z Z Z Z Z Z Z Z (fun ci v3 dG sN => ⟨_, (.there (.there (.there (.there (.there (.there (.there (.there .here)))))))), ⟨(Ic Mb2 (Ic Mb4 (Ic Mb5 (Ic Mb6 (Ic Mb9 In0))))), ?_⟩⟩)
            refine Aw.shift (Re0 (Sd ⟨(Ic Mb1 (Ic Mb3 (Ic Mb4 (Ic Mb5 (Ic Mb8 In0))))), ?_⟩))
            have gH := gG.mono dG
            obtain ⟨A1, fk, mM⟩ := RowR.at gH f
            obtain ⟨C8, rfl, ym⟩ := mM
            have zw := FV fk
            refine FP 14 (by kernel_rfl) (Jyq Z (F6 (T := (Ty.sl FU)) Mb6 gH fk (FSq f).1 Z Z Z Z Z) ⟨(Ic Mb1 (Ic Mb3 (Ic Mb4 (Ic Mb5 (Ic Mb8 In0))))), ?_⟩)
            refine Ao 15 Z ?_
            refine FX (T := (Ty.sl FU)) (vs := [(sv ci)]) (r' := [(sv ci)]) (l' := (Ge p0.ops (wI ((p0.ops.length : Int) - 1)) g)) Z Z Z Z Z (.there (.there (.there (.there (.there (.there .here)))))) gH fk Z Z Z (RowR.set (wI ((p0.ops.length : Int) - 1)) gH ⟨ci, Z, sN⟩) (fun j4 => ⟨(Ic Mb1 (Ic Mb3 (Ic Mb4 (Ic Mb5 (Ic Mb8 In0))))), ?_⟩)
            have hse := FY e (wI ((p0.ops.length : Int) - 1)).toNat (sv ci)
            rw [hse] at j4 ⊢
            clear hse
            have xd := F3 fk (v := (sv ci))
            refine Ad<|Pu8<|Pu8<|Pu8<|Pu8<|Pu8<|Pu7<|Pu7<|Pu7<|Re8<|?_
            have sO := M.mono dG
            have sP := ((s.mono a).mono o).mono dG
            have sQ := ((t.mono a).mono o).mono dG
            have sR := ((w.mono a).mono o).mono dG
            exact Sd ⟨_, by exact R3, N, k, m, n, j, p0.cnfg.capacities, u, i, p0.cnfg.starts, r, p0.cnfg.threads, c, (Ge p0.ops (wI ((p0.ops.length : Int) - 1)) g), (e.set (wI ((p0.ops.length : Int) - 1)).toNat (sv ci)), h, p0.picks, p, Z, Z, H, sO, sP, sQ, j4, sR⟩
          ·have X := y.mono o
           obtain ⟨A2, a2, mN⟩ := RowR.at X z
           obtain ⟨ec, rfl, aU⟩ := mN
           have aW := FV a2
           refine id (Jyq Z (F6 (T := (Ty.sl FU)) Mb6 X a2 (FSq z).1 Z Z Z Z Z) ⟨(Ic Mb1 (Ic Mb3 (Ic Mb4 (Ic Mb5 (Ic Mb8 In0))))), ?_⟩)
           refine GG 1 9 12 (by kernel_rfl) ?_ ?_ ?_
           ·refine id (Jyq Z (FI (v := (sv c)) Z Z Z (Rb2 Z)) ⟨(Ic Mb1 (Ic Mb3 (Ic Mb4 (Ic Mb5 (Ic Mb8 In0))))), ?_⟩)
            refine Gf 9 12 (by kernel_rfl) ?_ ?_
            ·refine id (Jyq Z (FI (v := (sv ec)) Z Z Z (Gj (T := (Ty.sl FU)) Mb6 X a2 Z Z)) ⟨(Ic Mb1 (Ic Mb3 (Ic Mb4 (Ic Mb5 (Ic Mb8 In0))))), ?_⟩)
             refine Ao 12 Z ?_
             have j5 : RowR FU ai [(FM b B C)] [b] := RowR.cons ⟨B, C, Z, aj, ak⟩ (RowR.nil)
             refine Gl (T := FU) (rows := [(FM b B C)]) (l := [b]) Z Z Z j5 Z Z Z Z Z Z Z Z (fun C9 => ⟨(Ic Mb2 (Ic Mb4 (Ic Mb5 (Ic Mb6 (Ic Mb9 In0))))), ?_⟩)
             refine Ao 13 Z ?_
             refine F7 (T := FU) (bytes := 88) (q := (wI ((p0.ops.length : Int) - 1)).toNat) Z Z Z aU Mb8 aW (SrcT.row Mb0 j5 Z) x Z Z Z Z Z Z Z Z (fun cj v4 dH sS => ⟨_, (.there (.there (.there (.there (.there (.there (.there (.there .here)))))))), ⟨(Ic Mb2 (Ic Mb4 (Ic Mb5 (Ic Mb6 (Ic Mb9 In0))))), ?_⟩⟩)
             refine Aw.shift (Re0 (Sd ⟨(Ic Mb1 (Ic Mb3 (Ic Mb4 (Ic Mb5 (Ic Mb8 In0))))), ?_⟩))
             have gI := X.mono dH
             obtain ⟨A3, fl, mO⟩ := RowR.at gI f
             obtain ⟨Da, rfl, yn⟩ := mO
             have zx := FV fl
             refine FP 14 (by kernel_rfl) (Jyq Z (F6 (T := (Ty.sl FU)) Mb6 gI fl (FSq f).1 Z Z Z Z Z) ⟨(Ic Mb1 (Ic Mb3 (Ic Mb4 (Ic Mb5 (Ic Mb8 In0))))), ?_⟩)
             refine Ao 15 Z ?_
             refine FX (T := (Ty.sl FU)) (vs := [(sv cj)]) (r' := [(sv cj)]) (l' := (Ge p0.ops (wI ((p0.ops.length : Int) - 1)) g)) Z Z Z Z Z (.there (.there (.there (.there (.there (.there .here)))))) gI fl Z Z Z (RowR.set (wI ((p0.ops.length : Int) - 1)) gI ⟨cj, Z, sS⟩) (fun j6 => ⟨(Ic Mb1 (Ic Mb3 (Ic Mb4 (Ic Mb5 (Ic Mb8 In0))))), ?_⟩)
             have hse := FY e (wI ((p0.ops.length : Int) - 1)).toNat (sv cj)
             rw [hse] at j6 ⊢
             clear hse
             have xe := F3 fl (v := (sv cj))
             refine Ad<|Pu8<|Pu8<|Pu8<|Pu8<|Pu8<|Pu7<|Pu7<|Pu7<|Re8<|?_
             have sT := M.mono dH
             have sU := ((s.mono a).mono o).mono dH
             have sV := ((t.mono a).mono o).mono dH
             have sW := ((w.mono a).mono o).mono dH
             exact Sd ⟨_, by exact R3, N, k, m, n, j, p0.cnfg.capacities, u, i, p0.cnfg.starts, r, p0.cnfg.threads, c, (Ge p0.ops (wI ((p0.ops.length : Int) - 1)) g), (e.set (wI ((p0.ops.length : Int) - 1)).toNat (sv cj)), h, p0.picks, p, Z, Z, H, sT, sU, sV, j6, sW⟩
            ·refine id (Jy Z ?_)
             have j7 : RowR FU ai [(FM b B C)] [b] := RowR.cons ⟨B, C, Z, aj, ak⟩ (RowR.nil)
             refine Gl (T := FU) (rows := [(FM b B C)]) (l := [b]) Z Z Z j7 Z Z Z Z Z Z Z Z (fun Db => ⟨(Ic Mb2 (Ic Mb4 (Ic Mb5 (Ic Mb6 (Ic Mb9 In0))))), ?_⟩)
             refine FP 9 (by kernel_rfl) (Jyq Z (FI (v := (sv ec)) Z Z Z (Gj (T := (Ty.sl FU)) Mb7 X a2 Z Z)) ⟨(Ic Mb2 (Ic Mb4 (Ic Mb5 (Ic Mb6 (Ic Mb9 In0))))), ?_⟩)
             refine Ao 13 Z ?_
             refine F7 (T := FU) (bytes := 88) (q := (wI ((p0.ops.length : Int) - 1)).toNat) Z Z Z aU Mb8 aW (SrcT.row Mb0 j7 Z) x Z Z Z Z Z Z Z Z (fun ck v5 dI sX => ⟨_, (.there (.there (.there (.there (.there (.there (.there (.there .here)))))))), ⟨(Ic Mb2 (Ic Mb4 (Ic Mb5 (Ic Mb6 (Ic Mb9 In0))))), ?_⟩⟩)
             refine Aw.shift (Re0 (Sd ⟨(Ic Mb1 (Ic Mb3 (Ic Mb4 (Ic Mb5 (Ic Mb8 In0))))), ?_⟩))
             have gJ := X.mono dI
             obtain ⟨A4, fm, mP⟩ := RowR.at gJ f
             obtain ⟨Dc, rfl, yo⟩ := mP
             have zy := FV fm
             refine FP 14 (by kernel_rfl) (Jyq Z (F6 (T := (Ty.sl FU)) Mb6 gJ fm (FSq f).1 Z Z Z Z Z) ⟨(Ic Mb1 (Ic Mb3 (Ic Mb4 (Ic Mb5 (Ic Mb8 In0))))), ?_⟩)
             refine Ao 15 Z ?_
             refine FX (T := (Ty.sl FU)) (vs := [(sv ck)]) (r' := [(sv ck)]) (l' := (Ge p0.ops (wI ((p0.ops.length : Int) - 1)) g)) Z Z Z Z Z (.there (.there (.there (.there (.there (.there .here)))))) gJ fm Z Z Z (RowR.set (wI ((p0.ops.length : Int) - 1)) gJ ⟨ck, Z, sX⟩) (fun j8 => ⟨(Ic Mb1 (Ic Mb3 (Ic Mb4 (Ic Mb5 (Ic Mb8 In0))))), ?_⟩)
             have hse := FY e (wI ((p0.ops.length : Int) - 1)).toNat (sv ck)
             rw [hse] at j8 ⊢
             clear hse
             have xf := F3 fm (v := (sv ck))
             refine Ad<|Pu8<|Pu8<|Pu8<|Pu8<|Pu8<|Pu7<|Pu7<|Pu7<|Re8<|?_
             have sY := M.mono dI
             have sZ := ((s.mono a).mono o).mono dI
             have s0 := ((t.mono a).mono o).mono dI
             have s1 := ((w.mono a).mono o).mono dI
             exact Sd ⟨_, by exact R3, N, k, m, n, j, p0.cnfg.capacities, u, i, p0.cnfg.starts, r, p0.cnfg.threads, c, (Ge p0.ops (wI ((p0.ops.length : Int) - 1)) g), (e.set (wI ((p0.ops.length : Int) - 1)).toNat (sv ck)), h, p0.picks, p, Z, Z, H, sY, sZ, s0, j8, s1⟩
           ·refine id (Jyq Z (FI (v := (sv ec)) Z Z Z (Gj (T := (Ty.sl FU)) Mb6 X a2 Z Z)) ⟨(Ic Mb1 (Ic Mb3 (Ic Mb4 (Ic Mb5 (Ic Mb8 In0))))), ?_⟩)
            refine Gf 1 12 (by kernel_rfl) ?_ ?_
            ·refine id (Jyq Z (FI (v := (sv c)) Z Z Z (Rb2 Z)) ⟨(Ic Mb1 (Ic Mb3 (Ic Mb4 (Ic Mb5 (Ic Mb8 In0))))), ?_⟩)
             refine Ao 12 Z ?_
             have j9 : RowR FU ai [(FM b B C)] [b] := RowR.cons ⟨B, C, Z, aj, ak⟩ (RowR.nil)
             refine Gl (T := FU) (rows := [(FM b B C)]) (l := [b]) Z Z Z j9 Z Z Z Z Z Z Z Z (fun Dd => ⟨(Ic Mb2 (Ic Mb4 (Ic Mb5 (Ic Mb6 (Ic Mb9 In0))))), ?_⟩)
             refine Ao 13 Z ?_
             refine F7 (T := FU) (bytes := 88) (q := (wI ((p0.ops.length : Int) - 1)).toNat) Z Z Z aU Mb8 aW (SrcT.row Mb0 j9 Z) x Z Z Z Z Z Z Z Z (fun cl v6 dJ s2 => ⟨_, (.there (.there (.there (.there (.there (.there (.there (.there .here)))))))), ⟨(Ic Mb2 (Ic Mb4 (Ic Mb5 (Ic Mb6 (Ic Mb9 In0))))), ?_⟩⟩)
             refine Aw.shift (Re0 (Sd ⟨(Ic Mb1 (Ic Mb3 (Ic Mb4 (Ic Mb5 (Ic Mb8 In0))))), ?_⟩))
             have gK := X.mono dJ
             obtain ⟨A5, fn, mQ⟩ := RowR.at gK f
             obtain ⟨De, rfl, yp⟩ := mQ
             have zz := FV fn
             refine FP 14 (by kernel_rfl) (Jyq Z (F6 (T := (Ty.sl FU)) Mb6 gK fn (FSq f).1 Z Z Z Z Z) ⟨(Ic Mb1 (Ic Mb3 (Ic Mb4 (Ic Mb5 (Ic Mb8 In0))))), ?_⟩)
             refine Ao 15 Z ?_
             refine FX (T := (Ty.sl FU)) (vs := [(sv cl)]) (r' := [(sv cl)]) (l' := (Ge p0.ops (wI ((p0.ops.length : Int) - 1)) g)) Z Z Z Z Z (.there (.there (.there (.there (.there (.there .here)))))) gK fn Z Z Z (RowR.set (wI ((p0.ops.length : Int) - 1)) gK ⟨cl, Z, s2⟩) (fun ka => ⟨(Ic Mb1 (Ic Mb3 (Ic Mb4 (Ic Mb5 (Ic Mb8 In0))))), ?_⟩)
             have hse := FY e (wI ((p0.ops.length : Int) - 1)).toNat (sv cl)
             rw [hse] at ka ⊢
             clear hse
             have xg := F3 fn (v := (sv cl))
             refine Ad<|Pu8<|Pu8<|Pu8<|Pu8<|Pu8<|Pu7<|Pu7<|Pu7<|Re8<|?_
             have s3 := M.mono dJ
             have s4 := ((s.mono a).mono o).mono dJ
             have s5 := ((t.mono a).mono o).mono dJ
             have s6 := ((w.mono a).mono o).mono dJ
             exact Sd ⟨_, by exact R3, N, k, m, n, j, p0.cnfg.capacities, u, i, p0.cnfg.starts, r, p0.cnfg.threads, c, (Ge p0.ops (wI ((p0.ops.length : Int) - 1)) g), (e.set (wI ((p0.ops.length : Int) - 1)).toNat (sv cl)), h, p0.picks, p, Z, Z, H, s3, s4, s5, ka, s6⟩
            ·refine id (Jy Z ?_)
             have hi : RowR FU ai [(FM b B C)] [b] := RowR.cons ⟨B, C, Z, aj, ak⟩ (RowR.nil)
             refine Gl (T := FU) (rows := [(FM b B C)]) (l := [b]) Z Z Z hi Z Z Z Z Z Z Z Z (fun Df => ⟨(Ic Mb2 (Ic Mb4 (Ic Mb5 (Ic Mb6 (Ic Mb9 In0))))), ?_⟩)
             refine Gf 1 13 (by kernel_rfl) ?_ ?_
             ·refine id (Jyq Z (FI (v := (sv c)) Z Z Z (Rb3 Z)) ⟨(Ic Mb2 (Ic Mb4 (Ic Mb5 (Ic Mb6 (Ic Mb9 In0))))), ?_⟩)
              refine Ao 13 Z ?_
              refine F7 (T := FU) (bytes := 88) (q := (wI ((p0.ops.length : Int) - 1)).toNat) Z Z Z aU Mb8 aW (SrcT.row Mb0 hi Z) x Z Z Z Z Z Z Z Z (fun cm v7 dK s7 => ⟨_, (.there (.there (.there (.there (.there (.there (.there (.there .here)))))))), ⟨(Ic Mb2 (Ic Mb4 (Ic Mb5 (Ic Mb6 (Ic Mb9 In0))))), ?_⟩⟩)
              refine Aw.shift (Re0 (Sd ⟨(Ic Mb1 (Ic Mb3 (Ic Mb4 (Ic Mb5 (Ic Mb8 In0))))), ?_⟩))
              have gL := X.mono dK
              obtain ⟨A6, fo, mR⟩ := RowR.at gL f
              obtain ⟨Dg, rfl, yq⟩ := mR
              have zA := FV fo
              refine FP 14 (by kernel_rfl) (Jyq Z (F6 (T := (Ty.sl FU)) Mb6 gL fo (FSq f).1 Z Z Z Z Z) ⟨(Ic Mb1 (Ic Mb3 (Ic Mb4 (Ic Mb5 (Ic Mb8 In0))))), ?_⟩)
              refine Ao 15 Z ?_
              refine FX (T := (Ty.sl FU)) (vs := [(sv cm)]) (r' := [(sv cm)]) (l' := (Ge p0.ops (wI ((p0.ops.length : Int) - 1)) g)) Z Z Z Z Z (.there (.there (.there (.there (.there (.there .here)))))) gL fo Z Z Z (RowR.set (wI ((p0.ops.length : Int) - 1)) gL ⟨cm, Z, s7⟩) (fun kb => ⟨(Ic Mb1 (Ic Mb3 (Ic Mb4 (Ic Mb5 (Ic Mb8 In0))))), ?_⟩)
              have hse := FY e (wI ((p0.ops.length : Int) - 1)).toNat (sv cm)
              rw [hse] at kb ⊢
              clear hse
              have xh := F3 fo (v := (sv cm))
              refine Ad<|Pu8<|Pu8<|Pu8<|Pu8<|Pu8<|Pu7<|Pu7<|Pu7<|Re8<|?_
              have s8 := M.mono dK
              have s9 := ((s.mono a).mono o).mono dK
              have ta := ((t.mono a).mono o).mono dK
              have tb := ((w.mono a).mono o).mono dK
              exact Sd ⟨_, by exact R3, N, k, m, n, j, p0.cnfg.capacities, u, i, p0.cnfg.starts, r, p0.cnfg.threads, c, (Ge p0.ops (wI ((p0.ops.length : Int) - 1)) g), (e.set (wI ((p0.ops.length : Int) - 1)).toNat (sv cm)), h, p0.picks, p, Z, Z, H, s8, s9, ta, kb, tb⟩
             ·refine id (Jy Z ?_)
              refine F7 (T := FU) (bytes := 88) (q := (wI ((p0.ops.length : Int) - 1)).toNat) Z Z Z aU Mb8 aW (SrcT.row Mb0 hi Z) x Z Z Z Z Z Z Z Z (fun cn v8 dL tc => ⟨_, (.there (.there (.there (.there (.there (.there (.there (.there .here)))))))), ⟨(Ic Mb2 (Ic Mb4 (Ic Mb5 (Ic Mb6 (Ic Mb9 In0))))), ?_⟩⟩)
              refine Aw.shift (Re0 (Sd ⟨(Ic Mb1 (Ic Mb3 (Ic Mb4 (Ic Mb5 (Ic Mb8 In0))))), ?_⟩))
              refine FP 1 (by kernel_rfl) (Jyq Z (FI (v := (sv c)) Z Z Z (Rb2 Z)) ⟨(Ic Mb1 (Ic Mb3 (Ic Mb4 (Ic Mb5 (Ic Mb8 In0))))), ?_⟩)
              have gM := X.mono dL
              obtain ⟨A7, fp, mS⟩ := RowR.at gM f
              obtain ⟨Dh, rfl, yr⟩ := mS
              have zB := FV fp
              refine FP 14 (by kernel_rfl) (Jyq Z (F6 (T := (Ty.sl FU)) Mb6 gM fp (FSq f).1 Z Z Z Z Z) ⟨(Ic Mb1 (Ic Mb3 (Ic Mb4 (Ic Mb5 (Ic Mb8 In0))))), ?_⟩)
              refine Ao 15 Z ?_
              refine FX (T := (Ty.sl FU)) (vs := [(sv cn)]) (r' := [(sv cn)]) (l' := (Ge p0.ops (wI ((p0.ops.length : Int) - 1)) g)) Z Z Z Z Z (.there (.there (.there (.there (.there (.there .here)))))) gM fp Z Z Z (RowR.set (wI ((p0.ops.length : Int) - 1)) gM ⟨cn, Z, tc⟩) (fun kc => ⟨(Ic Mb1 (Ic Mb3 (Ic Mb4 (Ic Mb5 (Ic Mb8 In0))))), ?_⟩)
              have hse := FY e (wI ((p0.ops.length : Int) - 1)).toNat (sv cn)
              rw [hse] at kc ⊢
              clear hse
              have xi := F3 fp (v := (sv cn))
              refine Ad<|Pu8<|Pu8<|Pu8<|Pu8<|Pu8<|Pu7<|Pu7<|Pu7<|Re8<|?_
              have td := M.mono dL
              have te := ((s.mono a).mono o).mono dL
              have tf := ((t.mono a).mono o).mono dL
              have tg := ((w.mono a).mono o).mono dL
              exact Sd ⟨_, by exact R3, N, k, m, n, j, p0.cnfg.capacities, u, i, p0.cnfg.starts, r, p0.cnfg.threads, c, (Ge p0.ops (wI ((p0.ops.length : Int) - 1)) g), (e.set (wI ((p0.ops.length : Int) - 1)).toNat (sv cn)), h, p0.picks, p, Z, Z, H, td, te, tf, kc, tg⟩
           ·refine id (Jy Z ?_)
            have el : RowR FU ai [(FM b B C)] [b] := RowR.cons ⟨B, C, Z, aj, ak⟩ (RowR.nil)
            refine Gl (T := FU) (rows := [(FM b B C)]) (l := [b]) Z Z Z el Z Z Z Z Z Z Z Z (fun Di => ⟨(Ic Mb2 (Ic Mb4 (Ic Mb5 (Ic Mb6 (Ic Mb9 In0))))), ?_⟩)
            refine Gf 1 9 (by kernel_rfl) ?_ ?_
            ·refine id (Jyq Z (FI (v := (sv c)) Z Z Z (Rb3 Z)) ⟨(Ic Mb2 (Ic Mb4 (Ic Mb5 (Ic Mb6 (Ic Mb9 In0))))), ?_⟩)
             refine FP 9 (by kernel_rfl) (Jyq Z (FI (v := (sv ec)) Z Z Z (Gj (T := (Ty.sl FU)) Mb7 X a2 Z Z)) ⟨(Ic Mb2 (Ic Mb4 (Ic Mb5 (Ic Mb6 (Ic Mb9 In0))))), ?_⟩)
             refine Ao 13 Z ?_
             refine F7 (T := FU) (bytes := 88) (q := (wI ((p0.ops.length : Int) - 1)).toNat) Z Z Z aU Mb8 aW (SrcT.row Mb0 el Z) x Z Z Z Z Z Z Z Z (fun co v9 dM th => ⟨_, (.there (.there (.there (.there (.there (.there (.there (.there .here)))))))), ⟨(Ic Mb2 (Ic Mb4 (Ic Mb5 (Ic Mb6 (Ic Mb9 In0))))), ?_⟩⟩)
             refine Aw.shift (Re0 (Sd ⟨(Ic Mb1 (Ic Mb3 (Ic Mb4 (Ic Mb5 (Ic Mb8 In0))))), ?_⟩))
             have gN := X.mono dM
             obtain ⟨A8, fq, mT⟩ := RowR.at gN f
             obtain ⟨Dj, rfl, ys⟩ := mT
             have zC := FV fq
             refine FP 14 (by kernel_rfl) (Jyq Z (F6 (T := (Ty.sl FU)) Mb6 gN fq (FSq f).1 Z Z Z Z Z) ⟨(Ic Mb1 (Ic Mb3 (Ic Mb4 (Ic Mb5 (Ic Mb8 In0))))), ?_⟩)
             refine Ao 15 Z ?_
             refine FX (T := (Ty.sl FU)) (vs := [(sv co)]) (r' := [(sv co)]) (l' := (Ge p0.ops (wI ((p0.ops.length : Int) - 1)) g)) Z Z Z Z Z (.there (.there (.there (.there (.there (.there .here)))))) gN fq Z Z Z (RowR.set (wI ((p0.ops.length : Int) - 1)) gN ⟨co, Z, th⟩) (fun kd => ⟨(Ic Mb1 (Ic Mb3 (Ic Mb4 (Ic Mb5 (Ic Mb8 In0))))), ?_⟩)
             have hse := FY e (wI ((p0.ops.length : Int) - 1)).toNat (sv co)
             rw [hse] at kd ⊢
             clear hse
             have xj := F3 fq (v := (sv co))
             refine Ad<|Pu8<|Pu8<|Pu8<|Pu8<|Pu8<|Pu7<|Pu7<|Pu7<|Re8<|?_
             have ti := M.mono dM
             have tj := ((s.mono a).mono o).mono dM
             have tk := ((t.mono a).mono o).mono dM
             have tl := ((w.mono a).mono o).mono dM
             exact Sd ⟨_, by exact R3, N, k, m, n, j, p0.cnfg.capacities, u, i, p0.cnfg.starts, r, p0.cnfg.threads, c, (Ge p0.ops (wI ((p0.ops.length : Int) - 1)) g), (e.set (wI ((p0.ops.length : Int) - 1)).toNat (sv co)), h, p0.picks, p, Z, Z, H, ti, tj, tk, kd, tl⟩
            ·refine id (Jyq Z (FI (v := (sv ec)) Z Z Z (Gj (T := (Ty.sl FU)) Mb7 X a2 Z Z)) ⟨(Ic Mb2 (Ic Mb4 (Ic Mb5 (Ic Mb6 (Ic Mb9 In0))))), ?_⟩)
             refine Gf 1 13 (by kernel_rfl) ?_ ?_
             ·refine id (Jyq Z (FI (v := (sv c)) Z Z Z (Rb3 Z)) ⟨(Ic Mb2 (Ic Mb4 (Ic Mb5 (Ic Mb6 (Ic Mb9 In0))))), ?_⟩)
              refine Ao 13 Z ?_
              refine F7 (T := FU) (bytes := 88) (q := (wI ((p0.ops.length : Int) - 1)).toNat) Z Z Z aU Mb8 aW (SrcT.row Mb0 el Z) x Z Z Z Z Z Z Z Z (fun cp wa dN tm => ⟨_, (.there (.there (.there (.there (.there (.there (.there (.there .here)))))))), ⟨(Ic Mb2 (Ic Mb4 (Ic Mb5 (Ic Mb6 (Ic Mb9 In0))))), ?_⟩⟩)
              refine Aw.shift (Re0 (Sd ⟨(Ic Mb1 (Ic Mb3 (Ic Mb4 (Ic Mb5 (Ic Mb8 In0))))), ?_⟩))
              have gO := X.mono dN
              obtain ⟨A9, fr, mU⟩ := RowR.at gO f
              obtain ⟨Dk, rfl, yt⟩ := mU
              have zD := FV fr
              refine FP 14 (by kernel_rfl) (Jyq Z (F6 (T := (Ty.sl FU)) Mb6 gO fr (FSq f).1 Z Z Z Z Z) ⟨(Ic Mb1 (Ic Mb3 (Ic Mb4 (Ic Mb5 (Ic Mb8 In0))))), ?_⟩)
              refine Ao 15 Z ?_
              refine FX (T := (Ty.sl FU)) (vs := [(sv cp)]) (r' := [(sv cp)]) (l' := (Ge p0.ops (wI ((p0.ops.length : Int) - 1)) g)) Z Z Z Z Z (.there (.there (.there (.there (.there (.there .here)))))) gO fr Z Z Z (RowR.set (wI ((p0.ops.length : Int) - 1)) gO ⟨cp, Z, tm⟩) (fun ke => ⟨(Ic Mb1 (Ic Mb3 (Ic Mb4 (Ic Mb5 (Ic Mb8 In0))))), ?_⟩)
              have hse := FY e (wI ((p0.ops.length : Int) - 1)).toNat (sv cp)
              rw [hse] at ke ⊢
              clear hse
              have xk := F3 fr (v := (sv cp))
              refine Ad<|Pu8<|Pu8<|Pu8<|Pu8<|Pu8<|Pu7<|Pu7<|Pu7<|Re8<|?_
              have tn := M.mono dN
              have to := ((s.mono a).mono o).mono dN
              have tp := ((t.mono a).mono o).mono dN
              have tq := ((w.mono a).mono o).mono dN
              exact Sd ⟨_, by exact R3, N, k, m, n, j, p0.cnfg.capacities, u, i, p0.cnfg.starts, r, p0.cnfg.threads, c, (Ge p0.ops (wI ((p0.ops.length : Int) - 1)) g), (e.set (wI ((p0.ops.length : Int) - 1)).toNat (sv cp)), h, p0.picks, p, Z, Z, H, tn, to, tp, ke, tq⟩
             ·refine id (Jy Z ?_)
              refine F7 (T := FU) (bytes := 88) (q := (wI ((p0.ops.length : Int) - 1)).toNat) Z Z Z aU Mb8 aW (SrcT.row Mb0 el Z) x Z Z Z Z Z Z Z Z (fun cq wb dO tr => ⟨_, (.there (.there (.there (.there (.there (.there (.there (.there .here)))))))), ⟨(Ic Mb2 (Ic Mb4 (Ic Mb5 (Ic Mb6 (Ic Mb9 In0))))), ?_⟩⟩)
              refine Aw.shift (Re0 (Sd ⟨(Ic Mb1 (Ic Mb3 (Ic Mb4 (Ic Mb5 (Ic Mb8 In0))))), ?_⟩))
              refine FP 1 (by kernel_rfl) (Jyq Z (FI (v := (sv c)) Z Z Z (Rb2 Z)) ⟨(Ic Mb1 (Ic Mb3 (Ic Mb4 (Ic Mb5 (Ic Mb8 In0))))), ?_⟩)
              have gP := X.mono dO
              obtain ⟨Ba, fs, mV⟩ := RowR.at gP f
              obtain ⟨Dl, rfl, yu⟩ := mV
              have zE := FV fs
              refine FP 14 (by kernel_rfl) (Jyq Z (F6 (T := (Ty.sl FU)) Mb6 gP fs (FSq f).1 Z Z Z Z Z) ⟨(Ic Mb1 (Ic Mb3 (Ic Mb4 (Ic Mb5 (Ic Mb8 In0))))), ?_⟩)
              refine Ao 15 Z ?_
              refine FX (T := (Ty.sl FU)) (vs := [(sv cq)]) (r' := [(sv cq)]) (l' := (Ge p0.ops (wI ((p0.ops.length : Int) - 1)) g)) Z Z Z Z Z (.there (.there (.there (.there (.there (.there .here)))))) gP fs Z Z Z (RowR.set (wI ((p0.ops.length : Int) - 1)) gP ⟨cq, Z, tr⟩) (fun kf => ⟨(Ic Mb1 (Ic Mb3 (Ic Mb4 (Ic Mb5 (Ic Mb8 In0))))), ?_⟩)
              have hse := FY e (wI ((p0.ops.length : Int) - 1)).toNat (sv cq)
              rw [hse] at kf ⊢
              clear hse
              have xl := F3 fs (v := (sv cq))
              refine Ad<|Pu8<|Pu8<|Pu8<|Pu8<|Pu8<|Pu7<|Pu7<|Pu7<|Re8<|?_
              have ts := M.mono dO
              have tt := ((s.mono a).mono o).mono dO
              have tu := ((t.mono a).mono o).mono dO
              have tv := ((w.mono a).mono o).mono dO
              exact Sd ⟨_, by exact R3, N, k, m, n, j, p0.cnfg.capacities, u, i, p0.cnfg.starts, r, p0.cnfg.threads, c, (Ge p0.ops (wI ((p0.ops.length : Int) - 1)) g), (e.set (wI ((p0.ops.length : Int) - 1)).toNat (sv cq)), h, p0.picks, p, Z, Z, H, ts, tt, tu, kf, tv⟩
          ·refine id (Jy Z ?_)
           have dZ : RowR FU ai [(FM b B C)] [b] := RowR.cons ⟨B, C, Z, aj, ak⟩ (RowR.nil)
           refine Gl (T := FU) (rows := [(FM b B C)]) (l := [b]) Z Z Z dZ Z Z Z Z Z Z Z Z (fun Dm => ⟨(Ic Mb2 (Ic Mb4 (Ic Mb5 (Ic Mb6 (Ic Mb9 In0))))), ?_⟩)
           refine Gf 1 8 (by kernel_rfl) ?_ ?_
           ·refine id (Jyq Z (FI (v := (sv c)) Z Z Z (Rb3 Z)) ⟨(Ic Mb2 (Ic Mb4 (Ic Mb5 (Ic Mb6 (Ic Mb9 In0))))), ?_⟩)
            have gQ := y.mono o
            obtain ⟨Bb, hs, mW⟩ := RowR.at gQ z
            obtain ⟨u2, rfl, tw⟩ := mW
            have uu := FV hs
            refine FP 8 (by kernel_rfl) (Jyq Z (F6 (T := (Ty.sl FU)) Mb7 gQ hs (FSq z).1 Z Z Z Z Z) ⟨(Ic Mb2 (Ic Mb4 (Ic Mb5 (Ic Mb6 (Ic Mb9 In0))))), ?_⟩)
            refine FP 9 (by kernel_rfl) (Jyq Z (FI (v := (sv u2)) Z Z Z (Gj (T := (Ty.sl FU)) Mb7 gQ hs Z Z)) ⟨(Ic Mb2 (Ic Mb4 (Ic Mb5 (Ic Mb6 (Ic Mb9 In0))))), ?_⟩)
            refine Ao 13 Z ?_
            refine F7 (T := FU) (bytes := 88) (q := (wI ((p0.ops.length : Int) - 1)).toNat) Z Z Z tw Mb8 uu (SrcT.row Mb0 dZ Z) x Z Z Z Z Z Z Z Z (fun cr wc dP tx => ⟨_, (.there (.there (.there (.there (.there (.there (.there (.there .here)))))))), ⟨(Ic Mb2 (Ic Mb4 (Ic Mb5 (Ic Mb6 (Ic Mb9 In0))))), ?_⟩⟩)
            refine Aw.shift (Re0 (Sd ⟨(Ic Mb1 (Ic Mb3 (Ic Mb4 (Ic Mb5 (Ic Mb8 In0))))), ?_⟩))
            have gR := gQ.mono dP
            obtain ⟨Bd, ft, mX⟩ := RowR.at gR f
            obtain ⟨Dn, rfl, yv⟩ := mX
            have zF := FV ft
            refine FP 14 (by kernel_rfl) (Jyq Z (F6 (T := (Ty.sl FU)) Mb6 gR ft (FSq f).1 Z Z Z Z Z) ⟨(Ic Mb1 (Ic Mb3 (Ic Mb4 (Ic Mb5 (Ic Mb8 In0))))), ?_⟩)
            refine Ao 15 Z ?_
            refine FX (T := (Ty.sl FU)) (vs := [(sv cr)]) (r' := [(sv cr)]) (l' := (Ge p0.ops (wI ((p0.ops.length : Int) - 1)) g)) Z Z Z Z Z (.there (.there (.there (.there (.there (.there .here)))))) gR ft Z Z Z (RowR.set (wI ((p0.ops.length : Int) - 1)) gR ⟨cr, Z, tx⟩) (fun kg => ⟨(Ic Mb1 (Ic Mb3 (Ic Mb4 (Ic Mb5 (Ic Mb8 In0))))), ?_⟩)
            have hse := FY e (wI ((p0.ops.length : Int) - 1)).toNat (sv cr)
            rw [hse] at kg ⊢
            clear hse
            have xm := F3 ft (v := (sv cr))
            refine Ad<|Pu8<|Pu8<|Pu8<|Pu8<|Pu8<|Pu7<|Pu7<|Pu7<|Re8<|?_
            have ty := M.mono dP
            have tz := ((s.mono a).mono o).mono dP
            have tA := ((t.mono a).mono o).mono dP
            have tB := ((w.mono a).mono o).mono dP
            exact Sd ⟨_, by exact R3, N, k, m, n, j, p0.cnfg.capacities, u, i, p0.cnfg.starts, r, p0.cnfg.threads, c, (Ge p0.ops (wI ((p0.ops.length : Int) - 1)) g), (e.set (wI ((p0.ops.length : Int) - 1)).toNat (sv cr)), h, p0.picks, p, Z, Z, H, ty, tz, tA, kg, tB⟩
           ·have a4 := y.mono o
            obtain ⟨Be, fu, mY⟩ := RowR.at a4 z
            obtain ⟨ld, rfl, hG⟩ := mY
            have hL := FV fu
            refine id (Jyq Z (F6 (T := (Ty.sl FU)) Mb7 a4 fu (FSq z).1 Z Z Z Z Z) ⟨(Ic Mb2 (Ic Mb4 (Ic Mb5 (Ic Mb6 (Ic Mb9 In0))))), ?_⟩)
            refine Gf 1 9 (by kernel_rfl) ?_ ?_
            ·refine id (Jyq Z (FI (v := (sv c)) Z Z Z (Rb3 Z)) ⟨(Ic Mb2 (Ic Mb4 (Ic Mb5 (Ic Mb6 (Ic Mb9 In0))))), ?_⟩)
             refine FP 9 (by kernel_rfl) (Jyq Z (FI (v := (sv ld)) Z Z Z (Gj (T := (Ty.sl FU)) Mb7 a4 fu Z Z)) ⟨(Ic Mb2 (Ic Mb4 (Ic Mb5 (Ic Mb6 (Ic Mb9 In0))))), ?_⟩)
             refine Ao 13 Z ?_
             refine F7 (T := FU) (bytes := 88) (q := (wI ((p0.ops.length : Int) - 1)).toNat) Z Z Z hG Mb8 hL (SrcT.row Mb0 dZ Z) x Z Z Z Z Z Z Z Z (fun ct wd dQ tC => ⟨_, (.there (.there (.there (.there (.there (.there (.there (.there .here)))))))), ⟨(Ic Mb2 (Ic Mb4 (Ic Mb5 (Ic Mb6 (Ic Mb9 In0))))), ?_⟩⟩)
             refine Aw.shift (Re0 (Sd ⟨(Ic Mb1 (Ic Mb3 (Ic Mb4 (Ic Mb5 (Ic Mb8 In0))))), ?_⟩))
             have gS := a4.mono dQ
             obtain ⟨Bf, fv, mZ⟩ := RowR.at gS f
             obtain ⟨Do, rfl, yw⟩ := mZ
             have zG := FV fv
             refine FP 14 (by kernel_rfl) (Jyq Z (F6 (T := (Ty.sl FU)) Mb6 gS fv (FSq f).1 Z Z Z Z Z) ⟨(Ic Mb1 (Ic Mb3 (Ic Mb4 (Ic Mb5 (Ic Mb8 In0))))), ?_⟩)
             refine Ao 15 Z ?_
             refine FX (T := (Ty.sl FU)) (vs := [(sv ct)]) (r' := [(sv ct)]) (l' := (Ge p0.ops (wI ((p0.ops.length : Int) - 1)) g)) Z Z Z Z Z (.there (.there (.there (.there (.there (.there .here)))))) gS fv Z Z Z (RowR.set (wI ((p0.ops.length : Int) - 1)) gS ⟨ct, Z, tC⟩) (fun kh => ⟨(Ic Mb1 (Ic Mb3 (Ic Mb4 (Ic Mb5 (Ic Mb8 In0))))), ?_⟩)
             have hse := FY e (wI ((p0.ops.length : Int) - 1)).toNat (sv ct)
             rw [hse] at kh ⊢
             clear hse
             have xn := F3 fv (v := (sv ct))
             refine Ad<|Pu8<|Pu8<|Pu8<|Pu8<|Pu8<|Pu7<|Pu7<|Pu7<|Re8<|?_
             have tD := M.mono dQ
             have tE := ((s.mono a).mono o).mono dQ
             have tF := ((t.mono a).mono o).mono dQ
             have tG := ((w.mono a).mono o).mono dQ
             exact Sd ⟨_, by exact R3, N, k, m, n, j, p0.cnfg.capacities, u, i, p0.cnfg.starts, r, p0.cnfg.threads, c, (Ge p0.ops (wI ((p0.ops.length : Int) - 1)) g), (e.set (wI ((p0.ops.length : Int) - 1)).toNat (sv ct)), h, p0.picks, p, Z, Z, H, tD, tE, tF, kh, tG⟩
            ·refine id (Jyq Z (FI (v := (sv ld)) Z Z Z (Gj (T := (Ty.sl FU)) Mb7 a4 fu Z Z)) ⟨(Ic Mb2 (Ic Mb4 (Ic Mb5 (Ic Mb6 (Ic Mb9 In0))))), ?_⟩)
             refine Gf 1 13 (by kernel_rfl) ?_ ?_
             ·refine id (Jyq Z (FI (v := (sv c)) Z Z Z (Rb3 Z)) ⟨(Ic Mb2 (Ic Mb4 (Ic Mb5 (Ic Mb6 (Ic Mb9 In0))))), ?_⟩)
              refine Ao 13 Z ?_
              refine F7 (T := FU) (bytes := 88) (q := (wI ((p0.ops.length : Int) - 1)).toNat) Z Z Z hG Mb8 hL (SrcT.row Mb0 dZ Z) x Z Z Z Z Z Z Z Z (fun cu we dR tH => ⟨_, (.there (.there (.there (.there (.there (.there (.there (.there .here)))))))), ⟨(Ic Mb2 (Ic Mb4 (Ic Mb5 (Ic Mb6 (Ic Mb9 In0))))), ?_⟩⟩)
              refine Aw.shift (Re0 (Sd ⟨(Ic Mb1 (Ic Mb3 (Ic Mb4 (Ic Mb5 (Ic Mb8 In0))))), ?_⟩))
              have gT := a4.mono dR
              obtain ⟨Bg, fw, m0⟩ := RowR.at gT f
              obtain ⟨Dp, rfl, yx⟩ := m0
              have zH := FV fw
              refine FP 14 (by kernel_rfl) (Jyq Z (F6 (T := (Ty.sl FU)) Mb6 gT fw (FSq f).1 Z Z Z Z Z) ⟨(Ic Mb1 (Ic Mb3 (Ic Mb4 (Ic Mb5 (Ic Mb8 In0))))), ?_⟩)
              refine Ao 15 Z ?_
              refine FX (T := (Ty.sl FU)) (vs := [(sv cu)]) (r' := [(sv cu)]) (l' := (Ge p0.ops (wI ((p0.ops.length : Int) - 1)) g)) Z Z Z Z Z (.there (.there (.there (.there (.there (.there .here)))))) gT fw Z Z Z (RowR.set (wI ((p0.ops.length : Int) - 1)) gT ⟨cu, Z, tH⟩) (fun ki => ⟨(Ic Mb1 (Ic Mb3 (Ic Mb4 (Ic Mb5 (Ic Mb8 In0))))), ?_⟩)
              have hse := FY e (wI ((p0.ops.length : Int) - 1)).toNat (sv cu)
              rw [hse] at ki ⊢
              clear hse
              have xo := F3 fw (v := (sv cu))
              refine Ad<|Pu8<|Pu8<|Pu8<|Pu8<|Pu8<|Pu7<|Pu7<|Pu7<|Re8<|?_
              have tI := M.mono dR
              have tJ := ((s.mono a).mono o).mono dR
              have tK := ((t.mono a).mono o).mono dR
              have tL := ((w.mono a).mono o).mono dR
              exact Sd ⟨_, by exact R3, N, k, m, n, j, p0.cnfg.capacities, u, i, p0.cnfg.starts, r, p0.cnfg.threads, c, (Ge p0.ops (wI ((p0.ops.length : Int) - 1)) g), (e.set (wI ((p0.ops.length : Int) - 1)).toNat (sv cu)), h, p0.picks, p, Z, Z, H, tI, tJ, tK, ki, tL⟩
             ·refine id (Jy Z ?_)
              refine F7 (T := FU) (bytes := 88) (q := (wI ((p0.ops.length : Int) - 1)).toNat) Z Z Z hG Mb8 hL (SrcT.row Mb0 dZ Z) x Z Z Z Z Z Z Z Z (fun cv wf dS tM => ⟨_, (.there (.there (.there (.there (.there (.there (.there (.there .here)))))))), ⟨(Ic Mb2 (Ic Mb4 (Ic Mb5 (Ic Mb6 (Ic Mb9 In0))))), ?_⟩⟩)
              refine Aw.shift (Re0 (Sd ⟨(Ic Mb1 (Ic Mb3 (Ic Mb4 (Ic Mb5 (Ic Mb8 In0))))), ?_⟩))
              refine FP 1 (by kernel_rfl) (Jyq Z (FI (v := (sv c)) Z Z Z (Rb2 Z)) ⟨(Ic Mb1 (Ic Mb3 (Ic Mb4 (Ic Mb5 (Ic Mb8 In0))))), ?_⟩)
              have gU := a4.mono dS
              obtain ⟨Bh, fx, m1⟩ := RowR.at gU f
              obtain ⟨Dq, rfl, yy⟩ := m1
              have zI := FV fx
              refine FP 14 (by kernel_rfl) (Jyq Z (F6 (T := (Ty.sl FU)) Mb6 gU fx (FSq f).1 Z Z Z Z Z) ⟨(Ic Mb1 (Ic Mb3 (Ic Mb4 (Ic Mb5 (Ic Mb8 In0))))), ?_⟩)
              refine Ao 15 Z ?_
              refine FX (T := (Ty.sl FU)) (vs := [(sv cv)]) (r' := [(sv cv)]) (l' := (Ge p0.ops (wI ((p0.ops.length : Int) - 1)) g)) Z Z Z Z Z (.there (.there (.there (.there (.there (.there .here)))))) gU fx Z Z Z (RowR.set (wI ((p0.ops.length : Int) - 1)) gU ⟨cv, Z, tM⟩) (fun kj => ⟨(Ic Mb1 (Ic Mb3 (Ic Mb4 (Ic Mb5 (Ic Mb8 In0))))), ?_⟩)
              have hse := FY e (wI ((p0.ops.length : Int) - 1)).toNat (sv cv)
              rw [hse] at kj ⊢
              clear hse
              have xp := F3 fx (v := (sv cv))
              refine Ad<|Pu8<|Pu8<|Pu8<|Pu8<|Pu8<|Pu7<|Pu7<|Pu7<|Re8<|?_
              have tN := M.mono dS
              have tO := ((s.mono a).mono o).mono dS
              have tP := ((t.mono a).mono o).mono dS
              have tQ := ((w.mono a).mono o).mono dS
              exact Sd ⟨_, by exact R3, N, k, m, n, j, p0.cnfg.capacities, u, i, p0.cnfg.starts, r, p0.cnfg.threads, c, (Ge p0.ops (wI ((p0.ops.length : Int) - 1)) g), (e.set (wI ((p0.ops.length : Int) - 1)).toNat (sv cv)), h, p0.picks, p, Z, Z, H, tN, tO, tP, kj, tQ⟩
         ·refine id (Jy Z ?_)
          have a8 : RowR FU ai [(FM b B C)] [b] := RowR.cons ⟨B, C, Z, aj, ak⟩ (RowR.nil)
          refine Gl (T := FU) (rows := [(FM b B C)]) (l := [b]) Z Z Z a8 Z Z Z Z Z Z Z Z (fun Dr => ⟨(Ic Mb2 (Ic Mb4 (Ic Mb5 (Ic Mb6 (Ic Mb9 In0))))), ?_⟩)
          refine Gf 1 5 (by kernel_rfl) ?_ ?_
          ·refine id (Jyq Z (FI (v := (sv c)) Z Z Z (Rb3 Z)) ⟨(Ic Mb2 (Ic Mb4 (Ic Mb5 (Ic Mb6 (Ic Mb9 In0))))), ?_⟩)
           refine FP 5 (by kernel_rfl) (Jyq Z (FI (v := (sv c)) Z Z Z (Rb3 Z)) ⟨(Ic Mb2 (Ic Mb4 (Ic Mb5 (Ic Mb6 (Ic Mb9 In0))))), ?_⟩)
           have gV := y.mono o
           obtain ⟨Bi, ht, m2⟩ := RowR.at gV z
           obtain ⟨u3, rfl, tR⟩ := m2
           have uv := FV ht
           refine FP 8 (by kernel_rfl) (Jyq Z (F6 (T := (Ty.sl FU)) Mb7 gV ht (FSq z).1 Z Z Z Z Z) ⟨(Ic Mb2 (Ic Mb4 (Ic Mb5 (Ic Mb6 (Ic Mb9 In0))))), ?_⟩)
           refine FP 9 (by kernel_rfl) (Jyq Z (FI (v := (sv u3)) Z Z Z (Gj (T := (Ty.sl FU)) Mb7 gV ht Z Z)) ⟨(Ic Mb2 (Ic Mb4 (Ic Mb5 (Ic Mb6 (Ic Mb9 In0))))), ?_⟩)
           refine Ao 13 Z ?_
           refine F7 (T := FU) (bytes := 88) (q := (wI ((p0.ops.length : Int) - 1)).toNat) Z Z Z tR Mb8 uv (SrcT.row Mb0 a8 Z) x Z Z Z Z Z Z Z Z (fun cw wg dT tS => ⟨_, (.there (.there (.there (.there (.there (.there (.there (.there .here)))))))), ⟨(Ic Mb2 (Ic Mb4 (Ic Mb5 (Ic Mb6 (Ic Mb9 In0))))), ?_⟩⟩)
           refine Aw.shift (Re0 (Sd ⟨(Ic Mb1 (Ic Mb3 (Ic Mb4 (Ic Mb5 (Ic Mb8 In0))))), ?_⟩))
           have gW := gV.mono dT
           obtain ⟨Bj, fy, m3⟩ := RowR.at gW f
           obtain ⟨Ds, rfl, yz⟩ := m3
           have zJ := FV fy
           refine FP 14 (by kernel_rfl) (Jyq Z (F6 (T := (Ty.sl FU)) Mb6 gW fy (FSq f).1 Z Z Z Z Z) ⟨(Ic Mb1 (Ic Mb3 (Ic Mb4 (Ic Mb5 (Ic Mb8 In0))))), ?_⟩)
           refine Ao 15 Z ?_
           refine FX (T := (Ty.sl FU)) (vs := [(sv cw)]) (r' := [(sv cw)]) (l' := (Ge p0.ops (wI ((p0.ops.length : Int) - 1)) g)) Z Z Z Z Z (.there (.there (.there (.there (.there (.there .here)))))) gW fy Z Z Z (RowR.set (wI ((p0.ops.length : Int) - 1)) gW ⟨cw, Z, tS⟩) (fun kk => ⟨(Ic Mb1 (Ic Mb3 (Ic Mb4 (Ic Mb5 (Ic Mb8 In0))))), ?_⟩)
           have hse := FY e (wI ((p0.ops.length : Int) - 1)).toNat (sv cw)
           rw [hse] at kk ⊢
           clear hse
           have xq := F3 fy (v := (sv cw))
           refine Ad<|Pu8<|Pu8<|Pu8<|Pu8<|Pu8<|Pu7<|Pu7<|Pu7<|Re8<|?_
           have tT := M.mono dT
           have tU := ((s.mono a).mono o).mono dT
           have tV := ((t.mono a).mono o).mono dT
           have tW := ((w.mono a).mono o).mono dT
           exact Sd ⟨_, by exact R3, N, k, m, n, j, p0.cnfg.capacities, u, i, p0.cnfg.starts, r, p0.cnfg.threads, c, (Ge p0.ops (wI ((p0.ops.length : Int) - 1)) g), (e.set (wI ((p0.ops.length : Int) - 1)).toNat (sv cw)), h, p0.picks, p, Z, Z, H, tT, tU, tV, kk, tW⟩
          ·refine id (Jyq Z (FI (v := (sv c)) Z Z Z (Rb3 Z)) ⟨(Ic Mb2 (Ic Mb4 (Ic Mb5 (Ic Mb6 (Ic Mb9 In0))))), ?_⟩)
           refine Gf 1 8 (by kernel_rfl) ?_ ?_
           ·refine id (Jyq Z (FI (v := (sv c)) Z Z Z (Rb3 Z)) ⟨(Ic Mb2 (Ic Mb4 (Ic Mb5 (Ic Mb6 (Ic Mb9 In0))))), ?_⟩)
            have gX := y.mono o
            obtain ⟨Bk, hu, m4⟩ := RowR.at gX z
            obtain ⟨u4, rfl, tX⟩ := m4
            have uw := FV hu
            refine FP 8 (by kernel_rfl) (Jyq Z (F6 (T := (Ty.sl FU)) Mb7 gX hu (FSq z).1 Z Z Z Z Z) ⟨(Ic Mb2 (Ic Mb4 (Ic Mb5 (Ic Mb6 (Ic Mb9 In0))))), ?_⟩)
            refine FP 9 (by kernel_rfl) (Jyq Z (FI (v := (sv u4)) Z Z Z (Gj (T := (Ty.sl FU)) Mb7 gX hu Z Z)) ⟨(Ic Mb2 (Ic Mb4 (Ic Mb5 (Ic Mb6 (Ic Mb9 In0))))), ?_⟩)
            refine Ao 13 Z ?_
            refine F7 (T := FU) (bytes := 88) (q := (wI ((p0.ops.length : Int) - 1)).toNat) Z Z Z tX Mb8 uw (SrcT.row Mb0 a8 Z) x Z Z Z Z Z Z Z Z (fun cx wh dU tY => ⟨_, (.there (.there (.there (.there (.there (.there (.there (.there .here)))))))), ⟨(Ic Mb2 (Ic Mb4 (Ic Mb5 (Ic Mb6 (Ic Mb9 In0))))), ?_⟩⟩)
            refine Aw.shift (Re0 (Sd ⟨(Ic Mb1 (Ic Mb3 (Ic Mb4 (Ic Mb5 (Ic Mb8 In0))))), ?_⟩))
            have gY := gX.mono dU
            obtain ⟨Bn, fz, m5⟩ := RowR.at gY f
            obtain ⟨Dt, rfl, yA⟩ := m5
            have zK := FV fz
            refine FP 14 (by kernel_rfl) (Jyq Z (F6 (T := (Ty.sl FU)) Mb6 gY fz (FSq f).1 Z Z Z Z Z) ⟨(Ic Mb1 (Ic Mb3 (Ic Mb4 (Ic Mb5 (Ic Mb8 In0))))), ?_⟩)
            refine Ao 15 Z ?_
            refine FX (T := (Ty.sl FU)) (vs := [(sv cx)]) (r' := [(sv cx)]) (l' := (Ge p0.ops (wI ((p0.ops.length : Int) - 1)) g)) Z Z Z Z Z (.there (.there (.there (.there (.there (.there .here)))))) gY fz Z Z Z (RowR.set (wI ((p0.ops.length : Int) - 1)) gY ⟨cx, Z, tY⟩) (fun kl => ⟨(Ic Mb1 (Ic Mb3 (Ic Mb4 (Ic Mb5 (Ic Mb8 In0))))), ?_⟩)
            have hse := FY e (wI ((p0.ops.length : Int) - 1)).toNat (sv cx)
            rw [hse] at kl ⊢
            clear hse
            have xr := F3 fz (v := (sv cx))
            refine Ad<|Pu8<|Pu8<|Pu8<|Pu8<|Pu8<|Pu7<|Pu7<|Pu7<|Re8<|?_
            have tZ := M.mono dU
            have t0 := ((s.mono a).mono o).mono dU
            have t1 := ((t.mono a).mono o).mono dU
            have t2 := ((w.mono a).mono o).mono dU
            exact Sd ⟨_, by exact R3, N, k, m, n, j, p0.cnfg.capacities, u, i, p0.cnfg.starts, r, p0.cnfg.threads, c, (Ge p0.ops (wI ((p0.ops.length : Int) - 1)) g), (e.set (wI ((p0.ops.length : Int) - 1)).toNat (sv cx)), h, p0.picks, p, Z, Z, H, tZ, t0, t1, kl, t2⟩
           ·have a5 := y.mono o
            obtain ⟨Bo, fA, m6⟩ := RowR.at a5 z
            obtain ⟨le, rfl, hH⟩ := m6
            have hM := FV fA
            refine id (Jyq Z (F6 (T := (Ty.sl FU)) Mb7 a5 fA (FSq z).1 Z Z Z Z Z) ⟨(Ic Mb2 (Ic Mb4 (Ic Mb5 (Ic Mb6 (Ic Mb9 In0))))), ?_⟩)
            refine Gf 1 9 (by kernel_rfl) ?_ ?_
            ·refine id (Jyq Z (FI (v := (sv c)) Z Z Z (Rb3 Z)) ⟨(Ic Mb2 (Ic Mb4 (Ic Mb5 (Ic Mb6 (Ic Mb9 In0))))), ?_⟩)
             refine FP 9 (by kernel_rfl) (Jyq Z (FI (v := (sv le)) Z Z Z (Gj (T := (Ty.sl FU)) Mb7 a5 fA Z Z)) ⟨(Ic Mb2 (Ic Mb4 (Ic Mb5 (Ic Mb6 (Ic Mb9 In0))))), ?_⟩)
             refine Ao 13 Z ?_
             refine F7 (T := FU) (bytes := 88) (q := (wI ((p0.ops.length : Int) - 1)).toNat) Z Z Z hH Mb8 hM (SrcT.row Mb0 a8 Z) x Z Z Z Z Z Z Z Z (fun cy wi dV t3 => ⟨_, (.there (.there (.there (.there (.there (.there (.there (.there .here)))))))), ⟨(Ic Mb2 (Ic Mb4 (Ic Mb5 (Ic Mb6 (Ic Mb9 In0))))), ?_⟩⟩)
             refine Aw.shift (Re0 (Sd ⟨(Ic Mb1 (Ic Mb3 (Ic Mb4 (Ic Mb5 (Ic Mb8 In0))))), ?_⟩))
             have gZ := a5.mono dV
             obtain ⟨Bp, fB, m7⟩ := RowR.at gZ f
             obtain ⟨Du, rfl, yB⟩ := m7
             have zL := FV fB
             refine FP 14 (by kernel_rfl) (Jyq Z (F6 (T := (Ty.sl FU)) Mb6 gZ fB (FSq f).1 Z Z Z Z Z) ⟨(Ic Mb1 (Ic Mb3 (Ic Mb4 (Ic Mb5 (Ic Mb8 In0))))), ?_⟩)
             refine Ao 15 Z ?_
             refine FX (T := (Ty.sl FU)) (vs := [(sv cy)]) (r' := [(sv cy)]) (l' := (Ge p0.ops (wI ((p0.ops.length : Int) - 1)) g)) Z Z Z Z Z (.there (.there (.there (.there (.there (.there .here)))))) gZ fB Z Z Z (RowR.set (wI ((p0.ops.length : Int) - 1)) gZ ⟨cy, Z, t3⟩) (fun km => ⟨(Ic Mb1 (Ic Mb3 (Ic Mb4 (Ic Mb5 (Ic Mb8 In0))))), ?_⟩)
             have hse := FY e (wI ((p0.ops.length : Int) - 1)).toNat (sv cy)
             rw [hse] at km ⊢
             clear hse
             have xs := F3 fB (v := (sv cy))
             refine Ad<|Pu8<|Pu8<|Pu8<|Pu8<|Pu8<|Pu7<|Pu7<|Pu7<|Re8<|?_
             have t4 := M.mono dV
             have t5 := ((s.mono a).mono o).mono dV
             have t6 := ((t.mono a).mono o).mono dV
             have t7 := ((w.mono a).mono o).mono dV
             exact Sd ⟨_, by exact R3, N, k, m, n, j, p0.cnfg.capacities, u, i, p0.cnfg.starts, r, p0.cnfg.threads, c, (Ge p0.ops (wI ((p0.ops.length : Int) - 1)) g), (e.set (wI ((p0.ops.length : Int) - 1)).toNat (sv cy)), h, p0.picks, p, Z, Z, H, t4, t5, t6, km, t7⟩
            ·refine id (Jyq Z (FI (v := (sv le)) Z Z Z (Gj (T := (Ty.sl FU)) Mb7 a5 fA Z Z)) ⟨(Ic Mb2 (Ic Mb4 (Ic Mb5 (Ic Mb6 (Ic Mb9 In0))))), ?_⟩)
             refine Gf 1 13 (by kernel_rfl) ?_ ?_
             ·refine id (Jyq Z (FI (v := (sv c)) Z Z Z (Rb3 Z)) ⟨(Ic Mb2 (Ic Mb4 (Ic Mb5 (Ic Mb6 (Ic Mb9 In0))))), ?_⟩)
              refine Ao 13 Z ?_
              refine F7 (T := FU) (bytes := 88) (q := (wI ((p0.ops.length : Int) - 1)).toNat) Z Z Z hH Mb8 hM (SrcT.row Mb0 a8 Z) x Z Z Z Z Z Z Z Z (fun cz wj dW t8 => ⟨_, (.there (.there (.there (.there (.there (.there (.there (.there .here)))))))), ⟨(Ic Mb2 (Ic Mb4 (Ic Mb5 (Ic Mb6 (Ic Mb9 In0))))), ?_⟩⟩)
              refine Aw.shift (Re0 (Sd ⟨(Ic Mb1 (Ic Mb3 (Ic Mb4 (Ic Mb5 (Ic Mb8 In0))))), ?_⟩))
              have g0 := a5.mono dW
              obtain ⟨Br, fC, m8⟩ := RowR.at g0 f
              obtain ⟨Dv, rfl, yC⟩ := m8
              have zM := FV fC
              refine FP 14 (by kernel_rfl) (Jyq Z (F6 (T := (Ty.sl FU)) Mb6 g0 fC (FSq f).1 Z Z Z Z Z) ⟨(Ic Mb1 (Ic Mb3 (Ic Mb4 (Ic Mb5 (Ic Mb8 In0))))), ?_⟩)
              refine Ao 15 Z ?_
              refine FX (T := (Ty.sl FU)) (vs := [(sv cz)]) (r' := [(sv cz)]) (l' := (Ge p0.ops (wI ((p0.ops.length : Int) - 1)) g)) Z Z Z Z Z (.there (.there (.there (.there (.there (.there .here)))))) g0 fC Z Z Z (RowR.set (wI ((p0.ops.length : Int) - 1)) g0 ⟨cz, Z, t8⟩) (fun kn => ⟨(Ic Mb1 (Ic Mb3 (Ic Mb4 (Ic Mb5 (Ic Mb8 In0))))), ?_⟩)
              have hse := FY e (wI ((p0.ops.length : Int) - 1)).toNat (sv cz)
              rw [hse] at kn ⊢
              clear hse
              have xt := F3 fC (v := (sv cz))
              refine Ad<|Pu8<|Pu8<|Pu8<|Pu8<|Pu8<|Pu7<|Pu7<|Pu7<|Re8<|?_
              have t9 := M.mono dW
              have ua := ((s.mono a).mono o).mono dW
              have ub := ((t.mono a).mono o).mono dW
              have uc := ((w.mono a).mono o).mono dW
              exact Sd ⟨_, by exact R3, N, k, m, n, j, p0.cnfg.capacities, u, i, p0.cnfg.starts, r, p0.cnfg.threads, c, (Ge p0.ops (wI ((p0.ops.length : Int) - 1)) g), (e.set (wI ((p0.ops.length : Int) - 1)).toNat (sv cz)), h, p0.picks, p, Z, Z, H, t9, ua, ub, kn, uc⟩
             ·refine id (Jy Z ?_)
              refine F7 (T := FU) (bytes := 88) (q := (wI ((p0.ops.length : Int) - 1)).toNat) Z Z Z hH Mb8 hM (SrcT.row Mb0 a8 Z) x Z Z Z Z Z Z Z Z (fun cA wk dX ud => ⟨_, (.there (.there (.there (.there (.there (.there (.there (.there .here)))))))), ⟨(Ic Mb2 (Ic Mb4 (Ic Mb5 (Ic Mb6 (Ic Mb9 In0))))), ?_⟩⟩)
              refine Aw.shift (Re0 (Sd ⟨(Ic Mb1 (Ic Mb3 (Ic Mb4 (Ic Mb5 (Ic Mb8 In0))))), ?_⟩))
              refine FP 1 (by kernel_rfl) (Jyq Z (FI (v := (sv c)) Z Z Z (Rb2 Z)) ⟨(Ic Mb1 (Ic Mb3 (Ic Mb4 (Ic Mb5 (Ic Mb8 In0))))), ?_⟩)
              have g1 := a5.mono dX
              obtain ⟨Bs, fD, m9⟩ := RowR.at g1 f
              obtain ⟨Dw, rfl, yD⟩ := m9
              have zN := FV fD
              refine FP 14 (by kernel_rfl) (Jyq Z (F6 (T := (Ty.sl FU)) Mb6 g1 fD (FSq f).1 Z Z Z Z Z) ⟨(Ic Mb1 (Ic Mb3 (Ic Mb4 (Ic Mb5 (Ic Mb8 In0))))), ?_⟩)
              refine Ao 15 Z ?_
              refine FX (T := (Ty.sl FU)) (vs := [(sv cA)]) (r' := [(sv cA)]) (l' := (Ge p0.ops (wI ((p0.ops.length : Int) - 1)) g)) Z Z Z Z Z (.there (.there (.there (.there (.there (.there .here)))))) g1 fD Z Z Z (RowR.set (wI ((p0.ops.length : Int) - 1)) g1 ⟨cA, Z, ud⟩) (fun ko => ⟨(Ic Mb1 (Ic Mb3 (Ic Mb4 (Ic Mb5 (Ic Mb8 In0))))), ?_⟩)
              have hse := FY e (wI ((p0.ops.length : Int) - 1)).toNat (sv cA)
              rw [hse] at ko ⊢
              clear hse
              have xu := F3 fD (v := (sv cA))
              refine Ad<|Pu8<|Pu8<|Pu8<|Pu8<|Pu8<|Pu7<|Pu7<|Pu7<|Re8<|?_
              have ue := M.mono dX
              have uf := ((s.mono a).mono o).mono dX
              have ug := ((t.mono a).mono o).mono dX
              have uh := ((w.mono a).mono o).mono dX
              exact Sd ⟨_, by exact R3, N, k, m, n, j, p0.cnfg.capacities, u, i, p0.cnfg.starts, r, p0.cnfg.threads, c, (Ge p0.ops (wI ((p0.ops.length : Int) - 1)) g), (e.set (wI ((p0.ops.length : Int) - 1)).toNat (sv cA)), h, p0.picks, p, Z, Z, H, ue, uf, ug, ko, uh⟩
      ·intro hb
       have H := Gu (btf hb) H
       refine FK<|FD<|EL 5 (FG p0 j i c h) Z (Rb3 Z)<|?_
       refine FT Z (Sa (FG p0 j i c h) Z (.there (.there .here)) Z ?_)
       refine Ea Z<|FH<|Gg<|?_
       obtain ⟨cH, cI⟩ := K8 H
       subst y0 y1
       refine ⟨(.inl Z), [(.agg (FG p0 j i c h).toArray), (.bool false)], ⟨(.agg (FG p0 j i c h).toArray), _, Z, ⟨_, 5, (FG p0 j i c h), Z, Z, Z, Z, ⟨Z, Rb2 Z⟩, Z⟩, ⟨(.bool false), _, Z, Z, Z⟩⟩, ?_⟩
       refine Pu8<|Pu8<|Pu8<|Pu8<|Pu8<|Re5<|Re5<|Re5<|Re5<|?_
       have ui := s.mono a
       have uj := t.mono a
       have uk := w.mono a
       exact Sd ⟨j, u, i, r, c, e, h, p, Z, Z, ui, uj, y, uk⟩
 rintro _ wl _ xv ⟨g2, bg, bf, bi, aa, am, d6, ab, an, d7, au, ac, ao, cB, ad, ap, d8, rfl, rfl, H, nb, iq, ir, it, iu⟩
 unfold LA at H
 refine FK ?_
 rcases Ia (!(bi)) with kp | kp <;> revert kp
 ·intro aH
  have aH := GR aH
  have H := Gu (btf aH) H
  refine Gm _ Z (Ic Mb0 (Ic Mb2 (Ic Mb3 (Ic Mb4 (Ic Mb5 (Ic Mb6 (Ic Mb7 In0)))))))<|JL 0 5 (FG (FQ.mk (FW.mk am an au) ao ap) aa ab ac ad) Z (Rb1 Z)<|Jm 1 Z<|Jq 2 Z (FN Z)<|JF 3 2 Z<|Jl 4 (.bool bi) Z (Rb0 Z)<|Jq 5 Z (GW Z)<|Jm 6 Z<|Aw.known (d := 96) Z (TB (aH))<|Bm 7 Z<|Bq 8 Z (FN Z)<|BF 9 1 Z<|Bl 10 (Vi bf) Z (Rb0 Z)<|Bm 11 Z<|Bq 12 Z (FN Z)<|BF 13 0 Z<|Bl 14 (sv g2) Z (Rb0 Z)<|Bq 15 Z (Gt (T := Ty.str) nb Z Z)<|Bc 16 Z<|Jt 17 Z<|?_
  refine Ao 18 Z ?_
  refine Sa (FG (FQ.mk (FW.mk am an au) ao ap) aa ab ac ad) Z (.there .here) Z ⟨(Ic Mb0 (Ic Mb2 (Ic Mb3 (Ic Mb4 (Ic Mb5 (Ic Mb6 (Ic Mb7 In0))))))), ?_⟩
  refine Ja 19 Z<|Ad<|Gg<|?_
  obtain ⟨cH, cI⟩ := K8 H
  subst y0 y1
  refine ⟨(.inl Z), [(.agg (FG (FQ.mk (FW.mk am an au) ao ap) aa ab ac ad).toArray), (.bool (dcd (bf = (bg.length : Int))))], ⟨(.agg (FG (FQ.mk (FW.mk am an au) ao ap) aa ab ac ad).toArray), _, Z, ⟨_, 5, (FG (FQ.mk (FW.mk am an au) ao ap) aa ab ac ad), Z, Z, Z, Z, ⟨Z, Rb1 Z⟩, Z⟩, ⟨(.bool (dcd (bf = (bg.length : Int)))), _, Z, Z, Z⟩⟩, ?_⟩
  exact Pu7<|Pu7<|Pu7<|Pu7<|Pu7<|Re5<|Re5<|Re5<|Sd<|⟨aa, d6, ab, d7, ac, cB, ad, d8, Z, Z, iq, ir, it, iu⟩
 ·intro aH
  have aH := GQ aH
  have H := ift aH H
  refine Gm _ Z (Ic Mb0 (Ic Mb2 (Ic Mb3 (Ic Mb4 (Ic Mb5 (Ic Mb6 (Ic Mb7 In0)))))))<|JL 0 5 (FG (FQ.mk (FW.mk am an au) ao ap) aa ab ac ad) Z (Rb1 Z)<|Jm 1 Z<|Jq 2 Z (FN Z)<|JF 3 2 Z<|Jl 4 (.bool bi) Z (Rb0 Z)<|Jq 5 Z (GW Z)<|Jm 6 Z<|Aw.known (d := 96) Z (Vn (aH))<|Jz 7 Z<|Jz 8 Z<|Jz 9 Z<|Jz 10 Z<|Jz 11 Z<|Jz 12 Z<|Jz 13 Z<|Jz 14 Z<|Jz 15 Z<|Jz 16 Z<|Jf 17 Z<|?_
  refine Ao 18 Z ?_
  refine Sa (FG (FQ.mk (FW.mk am an au) ao ap) aa ab ac ad) Z (.there .here) Z ⟨(Ic Mb0 (Ic Mb2 (Ic Mb3 (Ic Mb4 (Ic Mb5 (Ic Mb6 (Ic Mb7 In0))))))), ?_⟩
  refine Ja 19 Z<|Ad<|Gg<|?_
  obtain ⟨cH, cI⟩ := K8 H
  subst y0 y1
  refine ⟨(.inl Z), [(.agg (FG (FQ.mk (FW.mk am an au) ao ap) aa ab ac ad).toArray), (.bool false)], ⟨(.agg (FG (FQ.mk (FW.mk am an au) ao ap) aa ab ac ad).toArray), _, Z, ⟨_, 5, (FG (FQ.mk (FW.mk am an au) ao ap) aa ab ac ad), Z, Z, Z, Z, ⟨Z, Rb1 Z⟩, Z⟩, ⟨(.bool false), _, Z, Z, Z⟩⟩, ?_⟩
  exact Pu7<|Pu7<|Pu7<|Pu7<|Pu7<|Re5<|Re5<|Re5<|Sd<|⟨aa, d6, ab, d7, ac, cB, ad, d8, Z, Z, iq, ir, it, iu⟩



end Go.Hx
