
import Derived.Test.YtphoeijgpmlbpaaGreatDoorXZM
import Derived.Test.YtphoeijgpmlbpaaGreatDoorXZWLaw17
set_option linter.unusedVariables false
set_option linter.unusedSimpArgs false
namespace Go.Hx
open Go Go.Proofs
set_option maxRecDepth 10000
set_option maxHeartbeats 1000000
theorem Du (p0 : fV) (a : SV) (b : SV) (p1 : Int) (p2 : Op) (c : SV) (d : SV) (i : fV) (o : ae2) (p : Bool) (H : sb p0 p1 p2 = some (i, o, p)) (K : Kp) (G : List Ent) (h : Slr fK K (sv a) p0.chans) (s : Slr fR K (sv b) p0.waiting) (N : Slr fX K (sv c) p2.cases) (O : Slr Ty.i64 K (sv d) p2.draws) :
  Fc Tryz.prog 24 #[(.agg (fh p0 a b).toArray), (Vi p1), (.agg (fj p2 c d).toArray)] K (G) (fun v g n => ∃ (bb : SV) (bc : SV) (aQ : SV), v = (.tuple #[(.agg (fh i bb bc).toArray), (sv aQ), (.bool p)]) ∧ (.tok 67 6 [(sv aQ)]) :: G = n ∧ Slr fK g (sv bb) i.chans ∧ Slr fR g (sv bc) i.waiting ∧ Slr f0 g (sv aQ) o) := by
 refine fN Tryz.func24 rfl Tryz.ntmps24 Tryz.results24 rfl ?_
 unfold sb at H
 refine fc<|fa<|?_
 refine ff rfl (fU (cs := (fh p0 a b)) rfl rfl rfl (fun u => ?_))
 refine ff rfl (fU (cs := (fj p2 c d)) rfl rfl rfl (fun M => ?_))
 refine ff rfl (fE (cs := (fh (fV.mk [] [] 0) fB fB)) rfl rfl rfl rfl (fun r => ?_))
 refine Ea Z<|Ea Z<|fb<|fc<|fc<|fa<|EF 0 Z<|El (Vi p2.kind) Z (Rb1 Z)<|fb<|fC<|fc<|fa<|Ec Z<|Ea Z<|fb<|?_
 refine fp rfl ?_ ?_
 ·intro Y
  obtain ⟨Y, H⟩ := It Y H
  refine fc<|fa<|EL 3 (fh p0 a b) Z (Rb2 Z)<|Em Z<|EL 7 (fj p2 c d) Z (Rb1 Z)<|?_
  obtain ⟨J, cT, cJ, H⟩ := iy H
  refine ff rfl (Ek Tryz.call41 Z (Dq p0 a b p1 p2 c d J cT cJ _ _ h s N O) ?_)
  rintro _ c1 _ dl ⟨F, I, aB, rfl, rfl, bG, bH, bI⟩
  refine Em Z<|Ex Z<|Ex Z<|?_
  refine ff rfl (fE (cs := (fh (fV.mk [] [] 0) fB fB)) rfl rfl rfl rfl (fun di => ?_))
  refine ff rfl (fm (vs := (fh J F I)) (all' := (fh J F I)) rfl rfl rfl rfl rfl .here rfl rfl rfl ?_)
  refine Ea Z<|fb<|fc<|fa<|EL 3 (fh J F I) Z (Rb0 Z)<|Em Z<|?_
  refine ff rfl (fm (vs := (fh J F I)) (all' := (fh J F I)) rfl rfl rfl rfl rfl (.there (.there .here)) rfl rfl rfl ?_)
  refine Ea Z<|Ea Z<|fb<|fz<|?_
  obtain ⟨V, W, X⟩ := jQ H
  subst i o p
  refine ⟨(by first|exact .inl rfl|exact .inr rfl), [(.agg (fh J F I).toArray), (sv aB), (.bool false)], ⟨(.agg (fh J F I).toArray), _, rfl, ⟨_, 3, (fh J F I), rfl, rfl, rfl, rfl, ⟨rfl, Rb2 Z⟩, rfl⟩, ⟨(sv aB), _, rfl, rfl, ⟨(.bool false), _, rfl, rfl, rfl⟩⟩⟩, ?_⟩
  exact Pu1<|Re1<|Re1<|Re1<|Re1<|Sd<|⟨F, I, aB, rfl, rfl, bG, bH, bI⟩
 ·intro Y
  obtain ⟨Y, H⟩ := If Y H
  refine fA (fun t g n => ∃ (aw : Bool), [(1, (Vi p1)), (3, (Vp u)), (5, (Vp M)), (6, (Vp r)), (28, (.bool aw))] = t ∧ K = g ∧ (.blk r 60 (fh (fV.mk [] [] 0) fB fB)) :: (.blk M 51 (fj p2 c d)) :: (.blk u 60 (fh p0 a b)) :: G = n ∧ s7 p1 p2 p0 aw = some (i, o, p)) ?_ ?_
  ·refine fc<|fa<|Ec Z<|Ea Z<|fb<|?_
   refine fp rfl ?_ ?_
   ·intro aa
    obtain ⟨aa, H⟩ := It aa H
    exact fy<|Pu2<|Pu2<|Pu2<|Sd<|⟨_, by exact R5, (dcd (p2.kind = 5)), rfl, rfl, rfl, H⟩
   ·intro aa
    obtain ⟨aa, H⟩ := If aa H
    exact fa<|Ec Z<|Ea Z<|fb<|Pu2<|Pu2<|Pu2<|Sd<|⟨_, by exact R5, (dcd (p2.kind = 6)), rfl, rfl, rfl, H⟩
  rintro _ _ _ - ⟨aw, rfl, rfl, rfl, H⟩
  unfold s7 at H
  refine fp rfl ?_ ?_
  ·intro an
   have H := ift an H
   refine fc<|fa<|Ea Z<|fb<|?_
   refine fA (fun t g n => ∃ (D : Int), [(1, (Vi p1)), (3, (Vp u)), (6, (Vp r)), (11, (Vi D))] = t ∧ K = g ∧ (.blk r 60 (fh (fV.mk [] [] 0) fB fB)) :: (.blk u 60 (fh p0 a b)) :: G = n ∧ oR p1 p0 D = some (i, o, p)) ?_ ?_
   ·refine fA (fun t g n => ∃ (ax : Bool), [(1, (Vi p1)), (3, (Vp u)), (5, (Vp M)), (6, (Vp r)), (11, (Vi 0)), (41, (.bool ax))] = t ∧ K = g ∧ (.blk r 60 (fh (fV.mk [] [] 0) fB fB)) :: (.blk M 51 (fj p2 c d)) :: (.blk u 60 (fh p0 a b)) :: G = n ∧ sa p1 p2 p0 ax = some (i, o, p)) ?_ ?_
    ·refine fa<|EF 2 Z<|El (Vi p2.channel) Z (Rb1 Z)<|Ec Z<|Em Z<|?_
     refine Ee Z ?_ ?_
     ·intro ab
      obtain ⟨ab, H⟩ := It ab H
      exact VF 2 Z<|Vl (Vi p2.channel) Z (Rb1 Z)<|VF 0 Z<|Vl (sv a) Z (Rb2 Z)<|Vq Z (gp (T := fK) h rfl rfl)<|Vc Z<|Et Z<|fb<|Pu2<|Pu2<|Pu2<|Sd<|⟨_, by exact R6, (dcd (p2.channel < (p0.chans.length : Int))), rfl, rfl, rfl, H⟩
     ·intro ab
      obtain ⟨ab, H⟩ := If ab H
      exact Ez Z<|Ez Z<|Ez Z<|Ez Z<|Ez Z<|Ez Z<|Ef Z<|fb<|Pu2<|Pu2<|Pu2<|Sd<|⟨_, by exact R6, false, rfl, rfl, rfl, H⟩
    rintro _ _ _ - ⟨ax, rfl, rfl, rfl, H⟩
    unfold sa at H
    refine fp rfl ?_ ?_
    ·intro ao
     have H := ift ao H
     refine fc<|fa<|EF 0 Z<|El (sv a) Z (Rb2 Z)<|EF 2 Z<|El (Vi p2.channel) Z (Rb1 Z)<|?_
     obtain ⟨cU, a7, H⟩ := bnd H
     obtain ⟨dx, bv, bq⟩ := Slr.at h a7
     obtain ⟨cN, rfl, bJ⟩ := bv
     refine Eq Z (Qi (T := fK) h a7 Z)<|EF 1 Z<|El (sv cN) Z (Rdc.k bq rfl)<|Eq Z (gp (T := Ty.u64) bJ rfl rfl)<|Ea Z<|fb<|fc<|fa<|EF 0 Z<|El (Vi p2.kind) Z (Rb1 Z)<|Ec Z<|fb<|?_
     refine fp rfl ?_ ?_
     ·intro ac
      obtain ⟨ac, H⟩ := It ac H
      refine fa<|EF 0 Z<|El (sv a) Z (Rb2 Z)<|EF 2 Z<|El (Vi p2.channel) Z (Rb1 Z)<|?_
      obtain ⟨bd, a8, H⟩ := bnd H
      obtain ⟨dy, bw, br⟩ := Slr.at h a8
      obtain ⟨dB, rfl, dw⟩ := bw
      exact Eq Z (Qi (T := fK) h a8 Z)<|EF 0 Z<|El (Vi bd.capacity) Z (Rdc.k br rfl)<|Ea Z<|fb<|Pu2<|Pu1<|Re2<|Sd<|⟨_, by exact R4, bd.capacity, rfl, rfl, rfl, H⟩
     ·intro ac
      obtain ⟨ac, H⟩ := If ac H
      exact fy<|Pu2<|Pu1<|Re2<|Sd<|⟨_, by exact R4, (cU.buffer.length : Int), rfl, rfl, rfl, H⟩
    ·intro ao
     have H := f5 (btf ao) H
     exact fy<|Pu2<|Pu1<|Re2<|Sd<|⟨_, by exact R4, 0, rfl, rfl, rfl, H⟩
   rintro _ _ _ - ⟨D, rfl, rfl, rfl, H⟩
   unfold oR at H
   refine fc<|fa<|EL 3 (fh p0 a b) Z (Rb1 Z)<|Em Z<|Em Z<|Eq Z (fH (cs := (fe (Result.mk 7 (-1) 0 false D))) rfl rfl rfl rfl rfl rfl)<|Eq Z (fH (cs := (fL (Done.mk p1 (Result.mk 7 (-1) 0 false D)))) rfl rfl rfl rfl rfl rfl)<|?_
   have aX : RowR f0 K [(fL (Done.mk p1 (Result.mk 7 (-1) 0 false D)))] [(Done.mk p1 (Result.mk 7 (-1) 0 false D))] := RowR.cons rfl (RowR.nil)
   refine ff rfl (gh (T := f0) (rows := [(fL (Done.mk p1 (Result.mk 7 (-1) 0 false D)))]) (l := [(Done.mk p1 (Result.mk 7 (-1) 0 false D))]) rfl rfl rfl aX rfl rfl rfl rfl rfl rfl rfl rfl (fun aC => ?_))
   refine ff rfl (fm (vs := (fh p0 a b)) (all' := (fh p0 a b)) rfl rfl rfl rfl rfl (.there .here) rfl rfl rfl ?_)
   refine Ea Z<|Ea Z<|fb<|fz<|?_
   obtain ⟨V, W, X⟩ := jQ H
   subst i o p
   refine ⟨(by first|exact .inl rfl|exact .inr rfl), [(.agg (fh p0 a b).toArray), (sv aC), (.bool false)], ⟨(.agg (fh p0 a b).toArray), _, rfl, ⟨_, 3, (fh p0 a b), rfl, rfl, rfl, rfl, ⟨rfl, Rb1 Z⟩, rfl⟩, ⟨(sv aC), _, rfl, rfl, ⟨(.bool false), _, rfl, rfl, rfl⟩⟩⟩, ?_⟩
   refine Shift.settle (T := f0) .here aX rfl ?_
   intro c2 aR bK
   refine Re1<|Re1<|?_
   have bL := h.mono aR
   have bM := s.mono aR
   exact Sd ⟨a, b, aC, rfl, rfl, bL, bM, bK⟩
  ·intro an
   have H := f5 (btf an) H
   refine fy<|fc<|fa<|Ea Z<|fb<|?_
   refine fA (fun t g n => ∃ (P : Int), [(1, (Vi p1)), (3, (Vp u)), (5, (Vp M)), (6, (Vp r)), (12, (Vi P))] = t ∧ (.blk r 60 (fh (fV.mk [] [] 0) fB fB)) :: (.blk M 51 (fj p2 c d)) :: (.blk u 60 (fh p0 a b)) :: G = n ∧ s6 p1 p2 p0 P = some (i, o, p)) ?_ ?_
   ·refine fc<|fa<|EF 0 Z<|El (Vi p2.kind) Z (Rb1 Z)<|Ec Z<|fb<|?_
    refine fp rfl ?_ ?_
    ·intro ad
     obtain ⟨ad, H⟩ := It ad H
     refine fa<|EL 3 (fh p0 a b) Z (Rb2 Z)<|Em Z<|EL 7 (fj p2 c d) Z (Rb1 Z)<|?_
     obtain ⟨be, cK, H⟩ := bnd H
     refine ff rfl (Ek Tryz.call42 Z (Dt p0 a b p1 p2 c d be cK _ _ h s N O) ?_)
     rintro _ c3 _ dm ⟨rfl, rfl⟩
     exact Ea Z<|fb<|Pu2<|Pu2<|Pu2<|Sd<|⟨_, by exact R5, be, rfl, rfl, H⟩
    ·intro ad
     obtain ⟨ad, H⟩ := If ad H
     refine fc ?_
     obtain ⟨cV, cL, H⟩ := bnd H
     obtain ⟨bf, a9, H⟩ := bnd H
     obtain ⟨cW, cM, H⟩ := bnd H
     refine fx _ rfl (Ic Mb0 (Ic Mb1 (Ic Mb2 In0)))<|JL 0 3 (fh p0 a b) Z (Rb2 Z)<|Jm 1 Z<|JL 2 7 (fj p2 c d) Z (Rb1 Z)<|?_
     refine Ao 3 Z ?_
     refine Ek Tryz.call44 Z (lA p2 c d cV cL _ _ N O) ?_
     rintro _ c4 _ aS ⟨dC, rfl, rfl, a3⟩
     refine ⟨(Ic Mb0 (Ic Mb1 (Ic Mb2 In0))), ?_⟩
     obtain ⟨_, rfl, bs⟩ := Slr.at a3 a9
     refine gG 4 (by kernel_rfl) (Jyq Z (Qi (T := fX) a3 a9 Z) ⟨(Ic Mb0 (Ic Mb1 (Ic Mb2 In0))), ?_⟩)
     refine gG 5 (by kernel_rfl) (Jyq Z (jq (m := 3) (cs := (fk bf)) rfl rfl rfl rfl ⟨rfl, Rdc.k bs rfl⟩) ⟨(Ic Mb0 (Ic Mb1 (Ic Mb2 In0))), ?_⟩)
     refine Ao 6 Z ?_
     have bN := h.mono aS
     have bO := s.mono aS
     refine Ek Tryz.call43 Z (yd p0 a b p1 bf cW cM _ _ bN bO) ?_
     rintro _ c5 _ dn ⟨rfl, rfl⟩
     refine ⟨(Ic Mb0 (Ic Mb1 (Ic Mb2 In0))), ?_⟩
     refine Ad ?_
     refine fp rfl ?_ ?_
     ·intro ap
      have H := ift ap H
      exact fa<|Ea Z<|fb<|Pu2<|Pu2<|Pu2<|Sd<|⟨_, by exact R5, 0, rfl, rfl, H⟩
     ·intro ap
      have H := f5 (btf ap) H
      exact fy<|Pu2<|Pu2<|Pu2<|Sd<|⟨_, by exact R5, (-1), rfl, rfl, H⟩
   rintro _ U _ f ⟨P, rfl, rfl, H⟩
   unfold s6 at H
   refine fc<|fc<|fa<|Em Z<|Ec Z<|fb<|?_
   refine fp rfl ?_ ?_
   ·intro ae
    obtain ⟨ae, H⟩ := It ae H
    refine fA (fun t g n => ∃ (am : Nat) (Q : SV) (av : ae2) (A : SV) (x : ad0) (B : SV) (y : af0) (E : Int), [(6, (Vp r)), (13, (Vp am)), (14, (sv Q))] = t ∧ (.blk am 60 (fh (fV.mk x y E) A B)) :: (.blk r 60 (fh (fV.mk [] [] 0) fB fB)) :: (.tok 67 6 [(sv Q)]) :: G = n ∧ zx av x y E = some (i, o, p) ∧ Slr f0 g (sv Q) av ∧ Slr fK g (sv A) x ∧ Slr fR g (sv B) y) ?_ ?_
    ·obtain ⟨bg, ba, H⟩ := bnd H
     obtain ⟨L, R, H⟩ := bnd H
     obtain ⟨e, C, aj, H⟩ := iy H
     refine fx _ rfl (Ic Mb0 (Ic Mb1 (Ic Mb2 In0)))<|JL 0 3 (fh p0 a b) Z (Rb2 Z)<|Jm 1 Z<|JL 2 7 (fj p2 c d) Z (Rb1 Z)<|Jm 3 Z<|JL 4 7 (fj p2 c d) Z (Rb1 Z)<|Jm 6 Z<|?_
     refine gX 5 13 (by kernel_rfl) ?_ ?_
     ·refine id (Jy Z ?_)
      have ah := N.mono f
      have ai := O.mono f
      refine Ek Tryz.call44 Z (lA p2 c d bg ba _ _ ah ai) ?_
      rintro _ c6 _ j ⟨dD, rfl, rfl, al⟩
      refine ⟨(Ic Mb0 (Ic Mb1 (Ic Mb2 In0))), ?_⟩
      refine gX 7 13 (by kernel_rfl) ?_ ?_
      ·obtain ⟨_, rfl, a2⟩ := Slr.at al R
       refine id (Jyq Z (Qi (T := fX) al R Z) ⟨(Ic Mb0 (Ic Mb1 (Ic Mb2 In0))), ?_⟩)
       refine gX 8 13 (by kernel_rfl) ?_ ?_
       ·refine id (Jyq Z (jq (m := 3) (cs := (fk L)) rfl rfl rfl rfl ⟨rfl, Rdc.k a2 rfl⟩) ⟨(Ic Mb0 (Ic Mb1 (Ic Mb2 In0))), ?_⟩)
        refine gX 9 13 (by kernel_rfl) ?_ ?_
        ·refine id (Jy Z ?_)
         have bS := (h.mono f).mono j
         have bT := (s.mono f).mono j
         have bU := ah.mono j
         have bV := ai.mono j
         refine Ek Tryz.call45 Z (l0 p0 a b p1 p2 c d P L e C aj _ _ bS bT bU bV) ?_
         rintro _ c7 _ dp ⟨aD, aE, cO, rfl, rfl, bW, bX, bY⟩
         refine ⟨(Ic Mb1 (Ic Mb2 (Ic Mb3 In0))), ?_⟩
         refine Jm 10 Z<|Jx 11 Z<|Jx 12 Z<|?_
         refine Ao 13 Z ?_
         refine fE (cs := (fh (fV.mk [] [] 0) fB fB)) rfl rfl rfl rfl (fun bi => ⟨(Ic Mb2 (Ic Mb3 (Ic Mb4 In0))), ?_⟩)
         refine Ao 14 Z ?_
         refine fm (vs := (fh e aD aE)) (all' := (fh e aD aE)) rfl rfl rfl rfl rfl .here rfl rfl rfl ⟨(Ic Mb2 (Ic Mb3 (Ic Mb4 In0))), ?_⟩
         exact Ja 15 Z<|Ad<|Pu1<|Pu2<|Pu2<|Re3<|Re3<|Sd<|⟨_, by exact R3, bi, cO, C, aD, e.chans, aE, e.waiting, e.tick, rfl, rfl, H, bY, bW, bX⟩
        ·refine id (Jy Z ?_)
         refine fE (cs := (fh (fV.mk [] [] 0) fB fB)) rfl rfl rfl rfl (fun bj => ⟨(Ic Mb1 (Ic Mb2 (Ic Mb3 In0))), ?_⟩)
         refine Ao 9 Z ?_
         have bZ := (h.mono f).mono j
         have b0 := (s.mono f).mono j
         have b1 := ah.mono j
         have b2 := ai.mono j
         refine Ek Tryz.call45 Z (l0 p0 a b p1 p2 c d P L e C aj _ _ bZ b0 b1 b2) ?_
         rintro _ c8 _ dq ⟨aF, aG, cP, rfl, rfl, b3, b4, b5⟩
         refine ⟨(Ic Mb2 (Ic Mb3 (Ic Mb4 In0))), ?_⟩
         refine Jm 10 Z<|Jx 11 Z<|Jx 12 Z<|?_
         refine Ao 14 Z ?_
         refine fm (vs := (fh e aF aG)) (all' := (fh e aF aG)) rfl rfl rfl rfl rfl (.there .here) rfl rfl rfl ⟨(Ic Mb2 (Ic Mb3 (Ic Mb4 In0))), ?_⟩
         exact Ja 15 Z<|Ad<|Pu2<|Pu2<|Re3<|Re3<|Sd<|⟨_, by exact R3, bj, cP, C, aF, e.chans, aG, e.waiting, e.tick, rfl, rfl, H, b5, b3, b4⟩
       ·refine id (Jy Z ?_)
        refine fE (cs := (fh (fV.mk [] [] 0) fB fB)) rfl rfl rfl rfl (fun bk => ⟨(Ic Mb1 (Ic Mb2 (Ic Mb3 In0))), ?_⟩)
        refine gG 8 (by kernel_rfl) (Jyq Z (jq (m := 3) (cs := (fk L)) rfl rfl rfl rfl ⟨rfl, Rdc.k a2 rfl⟩) ⟨(Ic Mb1 (Ic Mb2 (Ic Mb3 In0))), ?_⟩)
        refine Ao 9 Z ?_
        have b6 := (h.mono f).mono j
        have b7 := (s.mono f).mono j
        have b8 := ah.mono j
        have b9 := ai.mono j
        refine Ek Tryz.call45 Z (l0 p0 a b p1 p2 c d P L e C aj _ _ b6 b7 b8 b9) ?_
        rintro _ c9 _ dr ⟨aH, aI, cQ, rfl, rfl, ca, cb, cc⟩
        refine ⟨(Ic Mb2 (Ic Mb3 (Ic Mb4 In0))), ?_⟩
        refine Jm 10 Z<|Jx 11 Z<|Jx 12 Z<|?_
        refine Ao 14 Z ?_
        refine fm (vs := (fh e aH aI)) (all' := (fh e aH aI)) rfl rfl rfl rfl rfl (.there .here) rfl rfl rfl ⟨(Ic Mb2 (Ic Mb3 (Ic Mb4 In0))), ?_⟩
        exact Ja 15 Z<|Ad<|Pu2<|Pu2<|Re3<|Re3<|Sd<|⟨_, by exact R3, bk, cQ, C, aH, e.chans, aI, e.waiting, e.tick, rfl, rfl, H, cc, ca, cb⟩
      ·refine id (Jy Z ?_)
       refine fE (cs := (fh (fV.mk [] [] 0) fB fB)) rfl rfl rfl rfl (fun bl => ⟨(Ic Mb1 (Ic Mb2 (Ic Mb3 In0))), ?_⟩)
       obtain ⟨_, rfl, bt⟩ := Slr.at al R
       refine gG 7 (by kernel_rfl) (Jyq Z (Qi (T := fX) al R Z) ⟨(Ic Mb1 (Ic Mb2 (Ic Mb3 In0))), ?_⟩)
       refine gG 8 (by kernel_rfl) (Jyq Z (jq (m := 3) (cs := (fk L)) rfl rfl rfl rfl ⟨rfl, Rdc.k bt rfl⟩) ⟨(Ic Mb1 (Ic Mb2 (Ic Mb3 In0))), ?_⟩)
       refine Ao 9 Z ?_
       have cd := (h.mono f).mono j
       have ce := (s.mono f).mono j
       have cf := ah.mono j
       have cg := ai.mono j
       refine Ek Tryz.call45 Z (l0 p0 a b p1 p2 c d P L e C aj _ _ cd ce cf cg) ?_
       rintro _ da _ ds ⟨aJ, aK, cR, rfl, rfl, ch, ci, cj⟩
       refine ⟨(Ic Mb2 (Ic Mb3 (Ic Mb4 In0))), ?_⟩
       refine Jm 10 Z<|Jx 11 Z<|Jx 12 Z<|?_
       refine Ao 14 Z ?_
       refine fm (vs := (fh e aJ aK)) (all' := (fh e aJ aK)) rfl rfl rfl rfl rfl (.there .here) rfl rfl rfl ⟨(Ic Mb2 (Ic Mb3 (Ic Mb4 In0))), ?_⟩
       exact Ja 15 Z<|Ad<|Pu2<|Pu2<|Re3<|Re3<|Sd<|⟨_, by exact R3, bl, cR, C, aJ, e.chans, aK, e.waiting, e.tick, rfl, rfl, H, cj, ch, ci⟩
     ·refine id (Jy Z ?_)
      refine fE (cs := (fh (fV.mk [] [] 0) fB fB)) rfl rfl rfl rfl (fun bm => ⟨(Ic Mb1 (Ic Mb2 (Ic Mb3 In0))), ?_⟩)
      refine Ao 5 Z ?_
      have a4 := N.mono f
      have a5 := O.mono f
      refine Ek Tryz.call44 Z (lA p2 c d bg ba _ _ a4 a5) ?_
      rintro _ db _ ak ⟨dE, rfl, rfl, a6⟩
      refine ⟨(Ic Mb1 (Ic Mb2 (Ic Mb3 In0))), ?_⟩
      obtain ⟨_, rfl, bu⟩ := Slr.at a6 R
      refine gG 7 (by kernel_rfl) (Jyq Z (Qi (T := fX) a6 R Z) ⟨(Ic Mb1 (Ic Mb2 (Ic Mb3 In0))), ?_⟩)
      refine gG 8 (by kernel_rfl) (Jyq Z (jq (m := 3) (cs := (fk L)) rfl rfl rfl rfl ⟨rfl, Rdc.k bu rfl⟩) ⟨(Ic Mb1 (Ic Mb2 (Ic Mb3 In0))), ?_⟩)
      refine Ao 9 Z ?_
      have ck := (h.mono f).mono ak
      have cl := (s.mono f).mono ak
      have cm := a4.mono ak
      have cn := a5.mono ak
      refine Ek Tryz.call45 Z (l0 p0 a b p1 p2 c d P L e C aj _ _ ck cl cm cn) ?_
      rintro _ dc _ dt ⟨aL, aM, cS, rfl, rfl, co, cp, cq⟩
      refine ⟨(Ic Mb2 (Ic Mb3 (Ic Mb4 In0))), ?_⟩
      refine Jm 10 Z<|Jx 11 Z<|Jx 12 Z<|?_
      refine Ao 14 Z ?_
      refine fm (vs := (fh e aL aM)) (all' := (fh e aL aM)) rfl rfl rfl rfl rfl (.there .here) rfl rfl rfl ⟨(Ic Mb2 (Ic Mb3 (Ic Mb4 In0))), ?_⟩
      exact Ja 15 Z<|Ad<|Pu2<|Pu2<|Re3<|Re3<|Sd<|⟨_, by exact R3, bm, cS, C, aL, e.chans, aM, e.waiting, e.tick, rfl, rfl, H, cq, co, cp⟩
    rintro _ dd _ du ⟨am, Q, av, A, x, B, y, E, rfl, rfl, H, bP, bQ, bR⟩
    unfold zx at H
    refine fc<|fa<|EL 3 (fh (fV.mk x y E) A B) Z (Rb0 Z)<|Em Z<|?_
    refine ff rfl (fm (vs := (fh (fV.mk x y E) A B)) (all' := (fh (fV.mk x y E) A B)) rfl rfl rfl rfl rfl (.there .here) rfl rfl rfl ?_)
    refine Ea Z<|Ea Z<|fb<|fz<|?_
    obtain ⟨V, W, X⟩ := jQ H
    subst i o p
    refine ⟨(by first|exact .inl rfl|exact .inr rfl), [(.agg (fh (fV.mk x y E) A B).toArray), (sv Q), (.bool false)], ⟨(.agg (fh (fV.mk x y E) A B).toArray), _, rfl, ⟨_, 3, (fh (fV.mk x y E) A B), rfl, rfl, rfl, rfl, ⟨rfl, Rb1 Z⟩, rfl⟩, ⟨(sv Q), _, rfl, rfl, ⟨(.bool false), _, rfl, rfl, rfl⟩⟩⟩, ?_⟩
    exact Pu2<|Re1<|Re1<|Sd<|⟨A, B, Q, rfl, rfl, bQ, bR, bP⟩
   ·intro ae
    obtain ⟨ae, H⟩ := If ae H
    refine fy<|fc<|fc<|fa<|EF 1 Z<|El (Vi p2.mode) Z (Rb1 Z)<|Ec Z<|fb<|?_
    refine fp rfl ?_ ?_
    ·intro af
     obtain ⟨af, H⟩ := It af H
     refine fc<|fa<|EL 3 (fh p0 a b) Z (Rb2 Z)<|Em Z<|Eq Z (fH (cs := (fe (Result.mk 3 (-1) 0 false 0))) rfl rfl rfl rfl rfl rfl)<|Eq Z (fH (cs := (fL (Done.mk p1 (Result.mk 3 (-1) 0 false 0)))) rfl rfl rfl rfl rfl rfl)<|?_
     have aY : RowR f0 U [(fL (Done.mk p1 (Result.mk 3 (-1) 0 false 0)))] [(Done.mk p1 (Result.mk 3 (-1) 0 false 0))] := RowR.cons rfl (RowR.nil)
     refine ff rfl (gh (T := f0) (rows := [(fL (Done.mk p1 (Result.mk 3 (-1) 0 false 0)))]) (l := [(Done.mk p1 (Result.mk 3 (-1) 0 false 0))]) rfl rfl rfl aY rfl rfl rfl rfl rfl rfl rfl rfl (fun aN => ?_))
     refine ff rfl (fm (vs := (fh p0 a b)) (all' := (fh p0 a b)) rfl rfl rfl rfl rfl (.there .here) rfl rfl rfl ?_)
     refine Ea Z<|Ea Z<|fb<|fz<|?_
     obtain ⟨V, W, X⟩ := jQ H
     subst i o p
     refine ⟨(by first|exact .inl rfl|exact .inr rfl), [(.agg (fh p0 a b).toArray), (sv aN), (.bool false)], ⟨(.agg (fh p0 a b).toArray), _, rfl, ⟨_, 3, (fh p0 a b), rfl, rfl, rfl, rfl, ⟨rfl, Rb1 Z⟩, rfl⟩, ⟨(sv aN), _, rfl, rfl, ⟨(.bool false), _, rfl, rfl, rfl⟩⟩⟩, ?_⟩
     refine Shift.settle (T := f0) .here aY rfl ?_
     intro de aT cr
     refine Re1<|Re1<|Re1<|?_
     have ct := (h.mono f).mono aT
     have cu := (s.mono f).mono aT
     exact Sd ⟨a, b, aN, rfl, rfl, ct, cu, cr⟩
    ·intro af
     obtain ⟨af, H⟩ := If af H
     refine fy<|fc<|?_
     refine fA (fun t g n => ∃ (ay : Bool), [(1, (Vi p1)), (3, (Vp u)), (5, (Vp M)), (6, (Vp r)), (114, (.bool ay))] = t ∧ U = g ∧ (.blk r 60 (fh (fV.mk [] [] 0) fB fB)) :: (.blk M 51 (fj p2 c d)) :: (.blk u 60 (fh p0 a b)) :: G = n ∧ oS p1 p2 p0 ay = some (i, o, p)) ?_ ?_
     ·refine fa<|EF 1 Z<|El (Vi p2.mode) Z (Rb1 Z)<|Ec Z<|Em Z<|?_
      refine Ee Z ?_ ?_
      ·intro ag
       obtain ⟨ag, H⟩ := It ag H
       exact VF 4 Z<|Vl (Vi p2.deadline) Z (Rb1 Z)<|VF 2 Z<|Vl (Vi p0.tick) Z (Rb2 Z)<|Vc Z<|Et Z<|fb<|Pu2<|Pu2<|Pu2<|Sd<|⟨_, by exact R5, (dcd (p2.deadline ≤ p0.tick)), rfl, rfl, rfl, H⟩
      ·intro ag
       obtain ⟨ag, H⟩ := If ag H
       exact Ez Z<|Ez Z<|Ez Z<|Ez Z<|Ez Z<|Ef Z<|fb<|Pu2<|Pu2<|Pu2<|Sd<|⟨_, by exact R5, false, rfl, rfl, rfl, H⟩
     rintro _ _ _ - ⟨ay, rfl, rfl, rfl, H⟩
     unfold oS at H
     refine fp rfl ?_ ?_
     ·intro aq
      have H := ift aq H
      refine fc<|fa<|EL 3 (fh p0 a b) Z (Rb2 Z)<|Em Z<|Eq Z (fH (cs := (fe (Result.mk 4 (-1) 0 false 0))) rfl rfl rfl rfl rfl rfl)<|Eq Z (fH (cs := (fL (Done.mk p1 (Result.mk 4 (-1) 0 false 0)))) rfl rfl rfl rfl rfl rfl)<|?_
      have aZ : RowR f0 U [(fL (Done.mk p1 (Result.mk 4 (-1) 0 false 0)))] [(Done.mk p1 (Result.mk 4 (-1) 0 false 0))] := RowR.cons rfl (RowR.nil)
      refine ff rfl (gh (T := f0) (rows := [(fL (Done.mk p1 (Result.mk 4 (-1) 0 false 0)))]) (l := [(Done.mk p1 (Result.mk 4 (-1) 0 false 0))]) rfl rfl rfl aZ rfl rfl rfl rfl rfl rfl rfl rfl (fun aO => ?_))
      refine ff rfl (fm (vs := (fh p0 a b)) (all' := (fh p0 a b)) rfl rfl rfl rfl rfl (.there .here) rfl rfl rfl ?_)
      refine Ea Z<|Ea Z<|fb<|fz<|?_
      obtain ⟨V, W, X⟩ := jQ H
      subst i o p
      refine ⟨(by first|exact .inl rfl|exact .inr rfl), [(.agg (fh p0 a b).toArray), (sv aO), (.bool false)], ⟨(.agg (fh p0 a b).toArray), _, rfl, ⟨_, 3, (fh p0 a b), rfl, rfl, rfl, rfl, ⟨rfl, Rb1 Z⟩, rfl⟩, ⟨(sv aO), _, rfl, rfl, ⟨(.bool false), _, rfl, rfl, rfl⟩⟩⟩, ?_⟩
      refine Shift.settle (T := f0) .here aZ rfl ?_
      intro df aU cv
      refine Re1<|Re1<|Re1<|?_
      have cw := (h.mono f).mono aU
      have cx := (s.mono f).mono aU
      exact Sd ⟨a, b, aO, rfl, rfl, cw, cx, cv⟩
     ·intro aq
      have H := f5 (btf aq) H
      refine fy ?_
      refine fA (fun t g n => ∃ (w : SV) (z : af0), [(3, (Vp u)), (6, (Vp r))] = t ∧ (.blk r 60 (fh (fV.mk [] [] 0) fB fB)) :: (.blk u 60 (fh (fV.mk p0.chans z p0.tick) a w)) :: (.tok 96 8 [(sv w)]) :: G = n ∧ zy p0 z = some (i, o, p) ∧ Slr fR g (sv w) z) ?_ ?_
      ·obtain ⟨dJ, ar, H⟩ := bnd H
       obtain ⟨S, au, H⟩ := bnd H
       refine fx _ rfl (Ic Mb0 (Ic Mb1 In0))<|JF 0 1 Z<|Jm 3 Z<|JL 4 7 (fj p2 c d) Z (Rb1 Z)<|Jq 5 Z (fH (cs := (gi (gq.mk p1 p2) c d)) rfl rfl rfl rfl rfl rfl)<|?_
       refine gX 1 6 (by kernel_rfl) ?_ ?_
       ·refine id (Jyq Z (gv (v := (sv b)) rfl rfl rfl (Rb2 Z)) ⟨(Ic Mb0 (Ic Mb1 In0)), ?_⟩)
        refine gX 2 6 (by kernel_rfl) ?_ ?_
        ·refine id (Jy Z ?_)
         refine OpW.shift (Shift.nilTok1 96 8 (Sd ?_))
         have cz := s.mono f
         refine f6 (T := fR) (bytes := 96) (q := 0) rfl rfl rfl (Slr.nil fR _) Mb0 rfl (SrcT.sl cz) ar rfl rfl rfl rfl rfl rfl rfl rfl (fun dF bh aV cA => ⟨_, .here, ⟨(Ic Mb1 (Ic Mb2 In0)), ?_⟩⟩)
         refine Ao 6 Z ?_
         have cB := (N.mono f).mono aV
         have cC := (O.mono f).mono aV
         have a0 : RowR fR bh [(gi (gq.mk p1 p2) c d)] [(gq.mk p1 p2)] := RowR.cons ⟨c, d, rfl, cB, cC⟩ (RowR.nil)
         refine gh (T := fR) (rows := [(gi (gq.mk p1 p2) c d)]) (l := [(gq.mk p1 p2)]) rfl rfl rfl a0 rfl rfl rfl rfl rfl rfl rfl rfl (fun dG => ⟨(Ic Mb2 (Ic Mb3 In0)), ?_⟩)
         refine Ao 7 Z ?_
         refine f6 (T := fR) (bytes := 96) (q := 0) rfl rfl rfl cA Mb1 rfl (SrcT.row Mb0 a0 rfl) au rfl rfl rfl rfl rfl rfl rfl rfl (fun aP dg dv cD => ⟨_, (.there .here), ⟨(Ic Mb2 (Ic Mb3 In0)), ?_⟩⟩)
         refine Aw.shift (Re0 (Sd ⟨(Ic Mb1 (Ic Mb2 In0)), ?_⟩))
         refine JF 8 1 Z ?_
         refine Ao 9 Z ?_
         refine fm (vs := [(sv aP)]) (all' := (fh (fV.mk p0.chans S p0.tick) a aP)) rfl rfl rfl rfl rfl (.there (.there (.there .here))) rfl rfl rfl ⟨(Ic Mb1 (Ic Mb2 In0)), ?_⟩
         exact Ad<|Pu3<|Pu2<|Re3<|Sd<|⟨_, by exact R2, aP, S, rfl, rfl, H, cD⟩
        ·refine id (Jy Z ?_)
         have cE := N.mono f
         have cF := O.mono f
         have a1 : RowR fR U [(gi (gq.mk p1 p2) c d)] [(gq.mk p1 p2)] := RowR.cons ⟨c, d, rfl, cE, cF⟩ (RowR.nil)
         refine gh (T := fR) (rows := [(gi (gq.mk p1 p2) c d)]) (l := [(gq.mk p1 p2)]) rfl rfl rfl a1 rfl rfl rfl rfl rfl rfl rfl rfl (fun dH => ⟨(Ic Mb1 (Ic Mb2 In0)), ?_⟩)
         refine Ao 2 Z ?_
         refine OpW.shift (Shift.nilTok1 96 8 (Sd ?_))
         have cG := s.mono f
         refine f6 (T := fR) (bytes := 96) (q := 0) rfl rfl rfl (Slr.nil fR _) Mb0 rfl (SrcT.sl cG) ar rfl rfl rfl rfl rfl rfl rfl rfl (fun dI dh bp cH => ⟨_, .here, ⟨(Ic Mb2 (Ic Mb3 In0)), ?_⟩⟩)
         refine Ao 7 Z ?_
         have cI := a1.mono bp
         refine f6 (T := fR) (bytes := 96) (q := 0) rfl rfl rfl cH Mb0 rfl (SrcT.row Mb1 cI rfl) au rfl rfl rfl rfl rfl rfl rfl rfl (fun az cX dj bx => ⟨_, .here, ⟨(Ic Mb2 (Ic Mb3 In0)), ?_⟩⟩)
         refine Aw.shift (Re1 (Sd ⟨(Ic Mb1 (Ic Mb2 In0)), ?_⟩))
         refine JF 8 1 Z ?_
         refine Ao 9 Z ?_
         refine fm (vs := [(sv az)]) (all' := (fh (fV.mk p0.chans S p0.tick) a az)) rfl rfl rfl rfl rfl (.there (.there (.there .here))) rfl rfl rfl ⟨(Ic Mb1 (Ic Mb2 In0)), ?_⟩
         exact Ad<|Pu3<|Pu2<|Re3<|Sd<|⟨_, by exact R2, az, S, rfl, rfl, H, bx⟩
       ·refine id (Jy Z ?_)
        have bz := N.mono f
        have bA := O.mono f
        have aW : RowR fR U [(gi (gq.mk p1 p2) c d)] [(gq.mk p1 p2)] := RowR.cons ⟨c, d, rfl, bz, bA⟩ (RowR.nil)
        refine gh (T := fR) (rows := [(gi (gq.mk p1 p2) c d)]) (l := [(gq.mk p1 p2)]) rfl rfl rfl aW rfl rfl rfl rfl rfl rfl rfl rfl (fun dz => ⟨(Ic Mb1 (Ic Mb2 In0)), ?_⟩)
        refine gG 1 (by kernel_rfl) (Jyq Z (gv (v := (sv b)) rfl rfl rfl (Rb3 Z)) ⟨(Ic Mb1 (Ic Mb2 In0)), ?_⟩)
        refine Ao 2 Z ?_
        refine OpW.shift (Shift.nilTok1 96 8 (Sd ?_))
        have bB := s.mono f
        refine f6 (T := fR) (bytes := 96) (q := 0) rfl rfl rfl (Slr.nil fR _) Mb0 rfl (SrcT.sl bB) ar rfl rfl rfl rfl rfl rfl rfl rfl (fun dA cY bn bC => ⟨_, .here, ⟨(Ic Mb2 (Ic Mb3 In0)), ?_⟩⟩)
        refine Ao 7 Z ?_
        have bD := aW.mono bn
        refine f6 (T := fR) (bytes := 96) (q := 0) rfl rfl rfl bC Mb0 rfl (SrcT.row Mb1 bD rfl) au rfl rfl rfl rfl rfl rfl rfl rfl (fun aA cZ dk bE => ⟨_, .here, ⟨(Ic Mb2 (Ic Mb3 In0)), ?_⟩⟩)
        refine Aw.shift (Re1 (Sd ⟨(Ic Mb1 (Ic Mb2 In0)), ?_⟩))
        refine JF 8 1 Z ?_
        refine Ao 9 Z ?_
        refine fm (vs := [(sv aA)]) (all' := (fh (fV.mk p0.chans S p0.tick) a aA)) rfl rfl rfl rfl rfl (.there (.there (.there .here))) rfl rfl rfl ⟨(Ic Mb1 (Ic Mb2 In0)), ?_⟩
        exact Ad<|Pu3<|Pu2<|Re3<|Sd<|⟨_, by exact R2, aA, S, rfl, rfl, H, bE⟩
      rintro _ c0 _ bo ⟨w, z, rfl, rfl, H, cy⟩
      unfold zy at H
      refine fc<|fa<|EL 3 (fh (fV.mk p0.chans z p0.tick) a w) Z (Rb1 Z)<|?_
      refine ff rfl (fm (vs := (fh (fV.mk p0.chans z p0.tick) a w)) (all' := (fh (fV.mk p0.chans z p0.tick) a w)) rfl rfl rfl rfl rfl .here rfl rfl rfl ?_)
      refine Ea Z<|Ea Z<|fb<|fz<|?_
      obtain ⟨V, W, X⟩ := jQ H
      subst i o p
      refine ⟨(by first|exact .inl rfl|exact .inr rfl), [(.agg (fh (fV.mk p0.chans z p0.tick) a w).toArray), (sv fB), (.bool true)], ⟨(.agg (fh (fV.mk p0.chans z p0.tick) a w).toArray), _, rfl, ⟨_, 3, (fh (fV.mk p0.chans z p0.tick) a w), rfl, rfl, rfl, rfl, ⟨rfl, Rb0 Z⟩, rfl⟩, ⟨(sv fB), _, rfl, rfl, ⟨(.bool true), _, rfl, rfl, rfl⟩⟩⟩, ?_⟩
      refine Shift.nilTok1 67 6<|Re1<|Re1<|Re1<|?_
      have bF := (h.mono f).mono bo
      exact Sd ⟨a, w, fB, rfl, rfl, bF, cy, (Slr.nil f0 _)⟩
end Go.Hx
namespace Go.Hx
open Go Go.Proofs
set_option maxRecDepth 10000
set_option maxHeartbeats 1000000
theorem C5 (p0 : ad1) (bB : SV) (p1 : Int) (I : fP) (Q : ae4) (R : ad6) (H : qT p0 p1 = some (I, Q, R)) (K : Kp) (G : List Ent) (cX : Slr Ty.u8 K (sv bB) p0) :
  Fc Tryz.prog 8 #[(sv bB), (Vi p1)] K (G) (fun v a n => ∃ (bC : SV) (bD : SV) (cr : SV) (co : List (List Value)) (bE : SV), v = (.tuple #[(.agg (fq I bC bD).toArray), (sv cr), (sv bE)]) ∧ (.tok 3 1 [(sv bC)]) :: (.tok 36 1 [(sv bD)]) :: (.row (sv cr) 52 1 co.flatten) :: (.tok 40 8 [(sv bE)]) :: G = n ∧ Slr Ty.i64 a (sv bC) I.capacities ∧ Slr Ty.u64 a (sv bD) I.starts ∧ RowR (Ty.sl hQ) a co Q ∧ Slr f7 a (sv bE) R) := by
 refine fN Tryz.func8 rfl Tryz.ntmps8 Tryz.results8 rfl ?_
 unfold qT at H
 refine fc<|fa<|?_
 refine ff rfl (fE (cs := (fq (fP.mk [] [] 0) fB fB)) rfl rfl rfl rfl (fun p => ?_))
 refine Ea Z<|Ea Z<|fb<|fc<|fa<|Em Z<|?_
 obtain ⟨g, dQ, H⟩ := bnd H
 refine ff rfl (Ek Tryz.call18 Z (Do p0 bB 160 g dQ _ _ cX) ?_)
 rintro _ _ _ - ⟨j, O, rfl, rfl, rfl, bX⟩
 refine Ea Z<|fb<|fc<|fa<|Em Z<|?_
 obtain ⟨b, cw, cx, dR, H⟩ := li H
 refine ff rfl (Ek Tryz.call19 Z (Fh j g O b cw cx dR _ _ bX) ?_)
 rintro _ ek _ cB ⟨e, f, rfl, rfl, bY, bZ⟩
 refine ff rfl (fE (cs := (fq (fP.mk [] [] 0) fB fB)) rfl rfl rfl rfl (fun s => ?_))
 refine ff rfl (fm (vs := (fq b e f)) (all' := (fq b e f)) rfl rfl rfl rfl rfl .here rfl rfl rfl ?_)
 refine fb<|fc<|fa<|Em Z<|EL 3 (fq b e f) Z (Rb0 Z)<|Em Z<|?_
 obtain ⟨ac, bg, bh, dS, H⟩ := li H
 refine Ow.shift (Pu1 (Sd ?_))
 have bv := bX.mono cB
 refine ff rfl (Ek Tryz.call20 Z (Ff j (fg.mk g.list cw cx) O b e f p1 ac bg bh dS _ _ bv bY bZ) ?_)
 rintro _ el _ aP ⟨i, ab, rfl, rfl, bw⟩
 refine Ea Z<|fb<|fc<|fa<|EL 3 (fq b e f) Z (Rb2 Z)<|?_
 obtain ⟨ae, dT, H⟩ := bnd H
 have b0 := bY.mono aP
 have b1 := bZ.mono aP
 refine ff rfl (Ek Tryz.call21 Z (Dp b e f ae dT _ _ b0 b1) ?_)
 rintro _ cA _ ag ⟨aM, be, rfl, rfl, dJ, dK⟩
 refine ff rfl (fE (cs := (fh (fV.mk [] [] 0) fB fB)) rfl rfl rfl rfl (fun A => ?_))
 refine ff rfl (fm (vs := (fh ae aM be)) (all' := (fh ae aM be)) rfl rfl rfl rfl rfl .here rfl rfl rfl ?_)
 refine fb ?_
 refine fA (fun u a n => ∃ (y : SV) (a3 : ad1) (a9 : List (List Value)) (z : SV) (a4 : ad1) (ba : List (List Value)), [(4, (Vp p)), (7, (Vp j)), (8, (Vp s)), (9, (sv i)), (10, (Vp A)), (11, (sv y)), (12, (sv z))] = u ∧ cA = a ∧ (.blk A 60 (fh ae aM be)) :: (.blk s 27 (fq b e f)) :: (.blk j 99 (fF (fg.mk g.list bg bh) O)) :: (.blk p 27 (fq (fP.mk [] [] 0) fB fB)) :: (.row (sv y) 3 1 a9.flatten) :: (.row (sv z) 3 1 ba.flatten) :: (.tok 104 3 [(sv aM)]) :: (.row (sv i) 52 1 ab.flatten) :: (.tok 3 1 [(sv e)]) :: (.tok 36 1 [(sv f)]) :: G = n ∧ wk ac ae b g bg bh a3 a4 = some (I, Q, R) ∧ RowR Ty.i64 a a9 a3 ∧ RowR Ty.i64 a ba a4) ?_ ?_
 ·obtain ⟨cy, ck, H⟩ := bnd H
  obtain ⟨cz, cl, H⟩ := bnd H
  refine fx _ rfl (Ic Mb0 (Ic Mb1 (Ic Mb2 (Ic Mb3 (Ic Mb4 (Ic Mb5 (Ic Mb6 (Ic Mb7 In0))))))))<|JF 0 2 Z<|Jl 1 (Vi b.threads) Z (Rb4 Z)<|JF 3 2 Z<|Jl 4 (Vi b.threads) Z (Rb4 Z)<|?_
  refine gX 2 5 (by kernel_rfl) ?_ ?_
  ·refine id (Jy Z ?_)
   refine jK (T := Ty.i64) (r := [(Vi 0)]) rfl rfl rfl ck rfl rfl rfl rfl rfl rfl rfl rfl rfl rfl (fun d4 dV cO ey => ⟨(Ic Mb1 (Ic Mb2 (Ic Mb3 (Ic Mb4 (Ic Mb5 (Ic Mb6 (Ic Mb7 (Ic Mb8 In0)))))))), ?_⟩)
   refine Ja 6 Z ?_
   refine Ao 5 Z ?_
   refine jK (T := Ty.i64) (r := [(Vi 0)]) rfl rfl rfl cl rfl rfl rfl rfl rfl rfl rfl rfl rfl rfl (fun d5 dW cP ez => ⟨(Ic Mb2 (Ic Mb3 (Ic Mb4 (Ic Mb5 (Ic Mb6 (Ic Mb7 (Ic Mb8 (Ic Mb9 In0)))))))), ?_⟩)
   exact Ja 7 Z<|Ad<|Pu8<|Pu8<|Pu7<|Pu6<|Pu4<|Pu5<|Pu9<|Pu8<|Pu9<|Pu9<|Sd<|⟨_, by exact R7, d4, cy, dV, d5, cz, dW, rfl, rfl, rfl, H, cO, cP⟩
  ·refine id (Jy Z ?_)
   refine jK (T := Ty.i64) (r := [(Vi 0)]) rfl rfl rfl cl rfl rfl rfl rfl rfl rfl rfl rfl rfl rfl (fun d6 dX cQ eA => ⟨(Ic Mb1 (Ic Mb2 (Ic Mb3 (Ic Mb4 (Ic Mb5 (Ic Mb6 (Ic Mb7 (Ic Mb8 In0)))))))), ?_⟩)
   refine Ao 2 Z ?_
   refine jK (T := Ty.i64) (r := [(Vi 0)]) rfl rfl rfl ck rfl rfl rfl rfl rfl rfl rfl rfl rfl rfl (fun d7 dY cR eB => ⟨(Ic Mb2 (Ic Mb3 (Ic Mb4 (Ic Mb5 (Ic Mb6 (Ic Mb7 (Ic Mb8 (Ic Mb9 In0)))))))), ?_⟩)
   exact Ja 6 Z<|Ja 7 Z<|Ad<|Pu8<|Pu8<|Pu7<|Pu6<|Pu5<|Pu5<|Pu9<|Pu8<|Pu9<|Pu9<|Sd<|⟨_, by exact R7, d7, cy, dY, d6, cz, dX, rfl, rfl, rfl, H, cR, cQ⟩
 rintro _ _ _ - ⟨y, a3, a9, z, a4, ba, rfl, rfl, rfl, H, cM, cN⟩
 unfold wk at H
 refine fc<|fa<|EF 2 Z<|El (Vi b.threads) Z (Rb1 Z)<|?_
 obtain ⟨ef, dU, H⟩ := bnd H
 refine ff rfl (jK (T := fM) (r := (fe (Result.mk 0 0 0 false 0))) rfl rfl rfl dU rfl rfl rfl rfl rfl rfl rfl rfl rfl rfl (fun M dZ cS eC => ?_))
 refine Ea Z<|fb<|fc<|fa<|Ea Z<|fb<|?_
 refine fA (fun u a n => ∃ (al : SV) (bx : ad6), [(4, (Vp p)), (8, (Vp s)), (9, (sv i)), (14, (sv al))] = u ∧ (.blk s 27 (fq b e f)) :: (.blk p 27 (fq (fP.mk [] [] 0) fB fB)) :: (.tok 40 8 [(sv al)]) :: (.row (sv i) 52 1 ab.flatten) :: (.tok 3 1 [(sv e)]) :: (.tok 36 1 [(sv f)]) :: G = n ∧ wh ac b bx = some (I, Q, R) ∧ Slr f7 a (sv al) bx) ?_ ?_
 ·refine fc<|fa<|Ea Z<|fb<|fC<|?_
  refine ga (fun cm u a n => ∃ (L : ad1) (N : List (List Value)) (D : ad1) (V : List (List Value)) (S : ad5) (W : List (List Value)) (x : SV) (U : ad6) (w : Int) (X : SV) (E : ad0) (Y : SV) (F : af0) (J : Int) (aj : Int) (ak : Int), [(4, (Vp p)), (7, (Vp j)), (8, (Vp s)), (9, (sv i)), (10, (Vp A)), (11, (sv y)), (12, (sv z)), (13, (sv M)), (14, (sv x)), (15, (Vi w))] = u ∧ (.blk A 60 (fh (fV.mk E F J) X Y)) :: (.blk s 27 (fq b e f)) :: (.blk j 99 (fF (fg.mk g.list aj ak) O)) :: (.blk p 27 (fq (fP.mk [] [] 0) fB fB)) :: (.row (sv y) 3 1 N.flatten) :: (.row (sv z) 3 1 V.flatten) :: (.row (sv M) 38 5 W.flatten) :: (.tok 40 8 [(sv x)]) :: (.row (sv i) 52 1 ab.flatten) :: (.tok 3 1 [(sv e)]) :: (.tok 36 1 [(sv f)]) :: G = n ∧ BY (wj ac b g) cm L D S U w E F J aj ak = some (I, Q, R) ∧ RowR Ty.i64 a N L ∧ RowR Ty.i64 a V D ∧ RowR fM a W S ∧ Slr f7 a (sv x) U ∧ Slr fK a (sv X) E ∧ Slr fR a (sv Y) F) BIG ?_ ?_
  ·exact Shift.nilTok1 40 8<|je<|je<|je<|Pu3<|Pu4<|gC<|gC<|gC<|gC<|gC<|gC<|Re11<|Sd<|⟨_, by exact R10, a3, a9, a4, ba, ef, dZ, fB, ([] : ad6), 0, aM, ae.chans, be, ae.waiting, ae.tick, bg, bh, rfl, rfl, H, cM, cN, cS, (Slr.nil f7 _), dJ, dK⟩
  rintro cm _ aN _ aO ⟨L, N, D, V, S, W, x, U, w, X, E, Y, F, J, aj, ak, rfl, rfl, H, t, o, ah, aC, aQ, aR⟩
  obtain ⟨eE, aE, rfl, cV, H⟩ := lps10 H
  unfold wj at H
  refine fc ?_
  refine fA (fun u a n => ∃ (bz : Bool) (B : Int) (C : Int), [(4, (Vp p)), (7, (Vp j)), (8, (Vp s)), (9, (sv i)), (10, (Vp A)), (11, (sv y)), (12, (sv z)), (13, (sv M)), (14, (sv x)), (15, (Vi w)), (45, (.bool bz))] = u ∧ aN = a ∧ (.blk A 60 (fh (fV.mk E F J) X Y)) :: (.blk s 27 (fq b e f)) :: (.blk j 99 (fF (fg.mk g.list B C) O)) :: (.blk p 27 (fq (fP.mk [] [] 0) fB fB)) :: (.row (sv y) 3 1 N.flatten) :: (.row (sv z) 3 1 V.flatten) :: (.row (sv M) 38 5 W.flatten) :: (.tok 40 8 [(sv x)]) :: (.row (sv i) 52 1 ab.flatten) :: (.tok 3 1 [(sv e)]) :: (.tok 36 1 [(sv f)]) :: G = n ∧ oV ac L D S U w E F J b g aE bz B C = some (I, Q, R)) ?_ ?_
  ·refine fa<|Em Z<|Ec Z<|Em Z<|?_
   refine Ee Z ?_ ?_
   ·intro ar
    obtain ⟨ar, H⟩ := It ar H
    refine Vm Z ?_
    obtain ⟨ct, dL, H⟩ := bnd H
    refine Ow.shift (Pu2 (Sd ?_))
    have di := ((bv.mono aP).mono ag).mono aO
    refine ij rfl rfl rfl rfl (Ek Tryz.call22 Z (tN j (fg.mk g.list aj ak) O ct dL _ _ di) ?_)
    rintro _ _ _ - ⟨rfl, rfl, rfl⟩
    exact Et Z<|fb<|gC<|gC<|gC<|gC<|gC<|gC<|gC<|gC<|Pu8<|gC<|gC<|Sd<|⟨_, by exact R11, ct, ((fg.mk g.list aj ak).at_), ((fg.mk g.list aj ak).value), rfl, rfl, rfl, H⟩
   ·intro ar
    obtain ⟨ar, H⟩ := If ar H
    exact Ez Z<|Ez Z<|Ef Z<|fb<|gC<|gC<|gC<|gC<|gC<|gC<|gC<|gC<|gC<|gC<|gC<|Sd<|⟨_, by exact R11, false, aj, ak, rfl, rfl, rfl, H⟩
  rintro _ _ _ - ⟨bz, B, C, rfl, rfl, rfl, H⟩
  unfold oV at H
  refine fp rfl ?_ ?_
  ·intro bi
   have H := ift bi H
   refine fy ?_
   refine fA (fun u a n => ∃ (aY : ad1) (a5 : List (List Value)) (aZ : ad1) (a6 : List (List Value)) (a0 : ad5) (a7 : List (List Value)) (aJ : SV) (a1 : ad6) (bb : SV) (aF : ad0) (bc : SV) (aG : af0) (aW : Int) (aX : Int), [(4, (Vp p)), (7, (Vp j)), (8, (Vp s)), (9, (sv i)), (10, (Vp A)), (11, (sv y)), (12, (sv z)), (13, (sv M)), (14, (sv aJ)), (15, (Vi w))] = u ∧ (.blk A 60 (fh (fV.mk aF aG aW) bb bc)) :: (.blk s 27 (fq b e f)) :: (.blk j 99 (fF (fg.mk g.list aX ((fg.mk g.list B C).value)) O)) :: (.blk p 27 (fq (fP.mk [] [] 0) fB fB)) :: (.row (sv y) 3 1 a5.flatten) :: (.row (sv z) 3 1 a6.flatten) :: (.row (sv M) 38 5 a7.flatten) :: (.tok 40 8 [(sv aJ)]) :: (.row (sv i) 52 1 ab.flatten) :: (.tok 3 1 [(sv e)]) :: (.tok 36 1 [(sv f)]) :: G = n ∧ pT ac w b g B C aE aY aZ a0 a1 aF aG aW aX = some (I, Q, R) ∧ RowR Ty.i64 a a5 aY ∧ RowR Ty.i64 a a6 aZ ∧ RowR fM a a7 a0 ∧ Slr f7 a (sv aJ) a1 ∧ Slr fK a (sv bb) aF ∧ Slr fR a (sv bc) aG) ?_ ?_
   ·refine fC<|fc<|fa<|Em Z<|EF 2 Z<|El (Vi b.threads) Z (Rb1 Z)<|?_
    obtain ⟨c, P, dM, H⟩ := iy H
    refine Ow.shift (Pu2 (Sd ?_))
    have dm := ((bv.mono aP).mono ag).mono aO
    refine ff rfl (Ek Tryz.call23 Z (jb j (fg.mk g.list B C) O b.threads c P dM _ _ dm) ?_)
    rintro _ _ _ - ⟨rfl, rfl, rfl⟩
    refine Ea Z<|fb<|fC<|?_
    refine fA (fun u a n => ∃ (bA : Bool), [(4, (Vp p)), (7, (Vp j)), (8, (Vp s)), (9, (sv i)), (10, (Vp A)), (11, (sv y)), (12, (sv z)), (13, (sv M)), (14, (sv x)), (15, (Vi w)), (16, (Vi c)), (52, (.bool bA))] = u ∧ aN = a ∧ (.blk A 60 (fh (fV.mk E F J) X Y)) :: (.blk s 27 (fq b e f)) :: (.blk j 99 (fF (fg.mk g.list P ((fg.mk g.list B C).value)) O)) :: (.blk p 27 (fq (fP.mk [] [] 0) fB fB)) :: (.row (sv y) 3 1 N.flatten) :: (.row (sv z) 3 1 V.flatten) :: (.row (sv M) 38 5 W.flatten) :: (.tok 40 8 [(sv x)]) :: (.row (sv i) 52 1 ab.flatten) :: (.tok 3 1 [(sv e)]) :: (.tok 36 1 [(sv f)]) :: G = n ∧ pU ac L D S U w c E F J b g P B C aE bA = some (I, Q, R)) ?_ ?_
    ·obtain ⟨bF, aV, H⟩ := bnd H
     rcases ic (dcd (bF = 0)) with bJ | bJ <;> revert bJ
     ·intro af
      obtain ⟨af, H⟩ := It af H
      obtain ⟨cu, b2, H⟩ := bnd H
      obtain ⟨d8, b3, H⟩ := bnd H
      refine fx _ rfl (Ic Mb0 (Ic Mb1 (Ic Mb2 (Ic Mb3 (Ic Mb4 (Ic Mb5 (Ic Mb6 (Ic Mb7 (Ic Mb8 (Ic Mb9 (Ic uF In0)))))))))))<|Jm 0 Z<|Jm 1 Z<|?_
      obtain ⟨eG, bK, cY⟩ := RowR.at o aV
      obtain rfl := cY
      refine Jq 2 Z (gP (T := Ty.i64) Mb5 o bK (fO aV).1 rfl rfl rfl rfl rfl)<|Jl 3 (Vi bF) Z (ie (T := Ty.i64) Mb5 o bK rfl rfl)<|Jc 4 Z<|Jm 5 Z<|Aw.known (d := 58) rfl (iv af)<|Bm 6 Z<|Bm 7 Z<|?_
      obtain ⟨eH, bL, cZ⟩ := RowR.at t b2
      obtain rfl := cZ
      refine Bq 8 Z (gP (T := Ty.i64) Mb4 t bL (fO b2).1 rfl rfl rfl rfl rfl)<|Bl 9 (Vi cu) Z (ie (T := Ty.i64) Mb4 t bL rfl rfl)<|Bm 10 Z<|Bm 11 Z<|?_
      have bs := (bw.mono ag).mono aO
      obtain ⟨eI, bM, c0⟩ := RowR.at bs b3
      obtain ⟨d0, rfl, dn⟩ := c0
      exact Bq 12 Z (gP (T := (Ty.sl hQ)) Mb8 bs bM (fO b3).1 rfl rfl rfl rfl rfl)<|Bl 13 (sv d0) Z (ie (T := (Ty.sl hQ)) Mb8 bs bM rfl rfl)<|Bq 14 Z (gp (T := hQ) dn rfl rfl)<|Bc 15 Z<|Jt 16 Z<|Ja 17 Z<|Ad<|gC<|gC<|gC<|gC<|gC<|gC<|gC<|gC<|Pu8<|gC<|gC<|Sd<|⟨_, by exact R12, (dcd (cu < (d8.length : Int))), rfl, rfl, rfl, H⟩
     ·intro af
      obtain ⟨af, H⟩ := If af H
      refine fx _ rfl (Ic Mb0 (Ic Mb1 (Ic Mb2 (Ic Mb3 (Ic Mb4 (Ic Mb5 (Ic Mb6 (Ic Mb7 (Ic Mb8 (Ic Mb9 (Ic uF In0)))))))))))<|Jm 0 Z<|Jm 1 Z<|?_
      obtain ⟨eJ, bN, c1⟩ := RowR.at o aV
      obtain rfl := c1
      refine Jq 2 Z (gP (T := Ty.i64) Mb5 o bN (fO aV).1 rfl rfl rfl rfl rfl)<|Jl 3 (Vi bF) Z (ie (T := Ty.i64) Mb5 o bN rfl rfl)<|Jc 4 Z<|Jm 5 Z<|Aw.known (d := 58) rfl (iV af)<|Jz 6 Z<|Jz 7 Z<|Jz 8 Z<|Jz 9 Z<|Jz 10 Z<|Jz 11 Z<|Jz 12 Z<|Jz 13 Z<|Jz 14 Z<|Jz 15 Z<|Jf 16 Z<|Ja 17 Z<|Ad<|gC<|gC<|gC<|gC<|?_
      exact gC<|gC<|gC<|gC<|Pu8<|gC<|gC<|Sd<|⟨_, by exact R12, false, rfl, rfl, rfl, H⟩
    rintro _ _ _ - ⟨bA, rfl, rfl, rfl, H⟩
    unfold pU at H
    refine fp rfl ?_ ?_
    ·intro bj
     have H := ift bj H
     refine fc<|fa<|Em Z<|Em Z<|Em Z<|Em Z<|?_
     obtain ⟨ao, b4, H⟩ := bnd H
     obtain ⟨eK, bO, c2⟩ := RowR.at t b4
     obtain rfl := c2
     refine Eq Z (gP (T := Ty.i64) Mb4 t bO (fO b4).1 rfl rfl rfl rfl rfl)<|El (Vi ao) Z (ie (T := Ty.i64) Mb4 t bO rfl rfl)<|Eq Z (fH (cs := (fZ (Event.mk c ao false (Result.mk 0 0 0 false 0)))) rfl rfl rfl rfl rfl rfl)<|?_
     have bH : RowR f7 aN [(fZ (Event.mk c ao false (Result.mk 0 0 0 false 0)))] [(Event.mk c ao false (Result.mk 0 0 0 false 0))] := RowR.cons rfl (RowR.nil)
     refine ff rfl (gh (T := f7) (rows := [(fZ (Event.mk c ao false (Result.mk 0 0 0 false 0)))]) (l := [(Event.mk c ao false (Result.mk 0 0 0 false 0))]) rfl rfl rfl bH rfl rfl rfl rfl rfl rfl rfl rfl (fun eZ => ?_))
     obtain ⟨d9, dN, H⟩ := bnd H
     refine ff rfl (f6 (T := f7) (bytes := 64) (q := 0) rfl rfl rfl aC Mb8 rfl (SrcT.row Mb0 bH rfl) dN rfl rfl rfl rfl rfl rfl rfl rfl (fun d1 eg ax dp => ⟨_, (.there (.there (.there (.there (.there (.there (.there (.there .here)))))))), ?_⟩))
     refine Ow.shift (Re0 (Sd ?_))
     refine Ea Z<|fb<|fa<|Em Z<|Em Z<|?_
     obtain ⟨e1, b5, H⟩ := bnd H
     have aS := o.mono ax
     obtain ⟨eL, bm, c3⟩ := RowR.at aS b5
     obtain rfl := c3
     refine Eq Z (gP (T := Ty.i64) Mb5 aS bm (fO b5).1 rfl rfl rfl rfl rfl) ?_
     refine ff rfl (gW (T := Ty.i64) (vs := [(Vi 1)]) (r' := [(Vi 1)]) (l' := (fY D c 1)) rfl rfl rfl rfl rfl (.there (.there (.there (.there (.there .here))))) aS bm rfl rfl rfl (RowR.set c aS rfl) (fun cF => ?_))
     have er := i6 bm (v := [(Vi 1)])
     refine fb<|gC<|gC<|gC<|gC<|gC<|gC<|gC<|gC<|gC<|gC<|gC<|?_
     have dq := t.mono ax
     have dr := ah.mono ax
     have ds := aQ.mono ax
     have dt := aR.mono ax
     exact Sd ⟨_, by exact R10, L, N, (fY D c 1), (V.set c.toNat [(Vi 1)]), S, W, d1, d9, X, E, Y, F, J, P, rfl, rfl, H, dq, cF, dr, dp, ds, dt⟩
    ·intro bj
     have H := f5 (btf bj) H
     refine fc<|fa<|Em Z<|Em Z<|?_
     obtain ⟨ea, b6, H⟩ := bnd H
     obtain ⟨eM, bP, c4⟩ := RowR.at o b6
     obtain rfl := c4
     refine Eq Z (gP (T := Ty.i64) Mb5 o bP (fO b6).1 rfl rfl rfl rfl rfl)<|El (Vi ea) Z (ie (T := Ty.i64) Mb5 o bP rfl rfl)<|Ec Z<|Ea Z<|fb<|?_
     refine fp rfl ?_ ?_
     ·intro au
      obtain ⟨au, H⟩ := It au H
      refine fc<|fa<|Ea Z<|fb<|fc<|fa<|Ea Z<|fb<|fc<|?_
      obtain ⟨e2, b7, H⟩ := bnd H
      obtain ⟨eb, b8, H⟩ := bnd H
      obtain ⟨cv, b9, H⟩ := bnd H
      obtain ⟨aa, bf, ec, dO, H⟩ := li H
      refine fx _ rfl (Ic Mb1 (Ic Mb2 (Ic Mb3 (Ic Mb4 (Ic Mb5 (Ic Mb6 (Ic Mb7 (Ic Mb8 (Ic Mb9 (Ic uF In0))))))))))<|Jm 1 Z<|Jm 2 Z<|Jm 3 Z<|?_
      have bt := (bw.mono ag).mono aO
      obtain ⟨eN, bQ, c5⟩ := RowR.at bt b7
      obtain ⟨d2, rfl, bW⟩ := c5
      refine Jq 4 Z (gP (T := (Ty.sl hQ)) Mb7 bt bQ (fO b7).1 rfl rfl rfl rfl rfl)<|Jl 5 (sv d2) Z (ie (T := (Ty.sl hQ)) Mb7 bt bQ rfl rfl)<|Jm 6 Z<|Jm 7 Z<|?_
      obtain ⟨eO, bR, c6⟩ := RowR.at t b8
      obtain rfl := c6
      refine Jq 8 Z (gP (T := Ty.i64) Mb3 t bR (fO b8).1 rfl rfl rfl rfl rfl)<|Jl 9 (Vi eb) Z (ie (T := Ty.i64) Mb3 t bR rfl rfl)<|?_
      obtain ⟨eP, c7, cT⟩ := Slr.at bW b9
      obtain ⟨cp, cq, rfl, du, dv⟩ := c7
      refine Jq 10 Z (Qi (T := hQ) bW b9 Z)<|JL 11 7 (fj cv cp cq) Z (Rdc.k cT rfl)<|?_
      refine gG 0 (by kernel_rfl) (Jyq Z (jq (m := 3) (cs := (fh (fV.mk E F J) X Y)) rfl rfl rfl rfl ⟨rfl, Rb0 Z⟩) ⟨(Ic Mb1 (Ic Mb2 (Ic Mb3 (Ic Mb4 (Ic Mb5 (Ic Mb6 (Ic Mb7 (Ic Mb8 (Ic Mb9 (Ic uF In0)))))))))), ?_⟩)
      refine Ao 12 Z ?_
      refine Ek Tryz.call24 Z (Du (fV.mk E F J) X Y c cv cp cq aa bf ec dO _ _ aQ aR du dv) ?_
      rintro _ bG _ ay ⟨aK, aL, bd, rfl, rfl, dw, dx, bu⟩
      refine ⟨(Ic Mb2 (Ic Mb3 (Ic Mb4 (Ic Mb5 (Ic Mb6 (Ic Mb7 (Ic Mb8 (Ic Mb9 (Ic uF (Ic E2 In0)))))))))), ?_⟩
      refine Jm 13 Z<|Jx 14 Z<|Jx 15 Z<|Jx 16 Z<|?_
      refine Ao 17 Z ?_
      refine fm (vs := (fh aa aK aL)) (all' := (fh aa aK aL)) rfl rfl rfl rfl rfl (.there .here) rfl rfl rfl ⟨(Ic Mb2 (Ic Mb3 (Ic Mb4 (Ic Mb5 (Ic Mb6 (Ic Mb7 (Ic Mb8 (Ic Mb9 (Ic uF (Ic E2 In0)))))))))), ?_⟩
      refine Ja 18 Z<|Ja 19 Z<|Ad<|?_
      refine fA (fun u a n => ∃ (a2 : ad1) (a8 : List (List Value)), [(4, (Vp p)), (7, (Vp j)), (8, (Vp s)), (9, (sv i)), (10, (Vp A)), (11, (sv y)), (12, (sv z)), (13, (sv M)), (14, (sv x)), (15, (Vi w)), (17, (sv bd))] = u ∧ bG = a ∧ (.blk A 60 (fh aa aK aL)) :: (.blk s 27 (fq b e f)) :: (.blk j 99 (fF (fg.mk g.list P ((fg.mk g.list B C).value)) O)) :: (.blk p 27 (fq (fP.mk [] [] 0) fB fB)) :: (.row (sv z) 3 1 a8.flatten) :: (.tok 67 6 [(sv bd)]) :: (.row (sv y) 3 1 N.flatten) :: (.row (sv M) 38 5 W.flatten) :: (.tok 40 8 [(sv x)]) :: (.row (sv i) 52 1 ab.flatten) :: (.tok 3 1 [(sv e)]) :: (.tok 36 1 [(sv f)]) :: G = n ∧ oU ac L S U w bf aa b g P B C aE a2 = some (I, Q, R) ∧ RowR Ty.i64 a a8 a2) ?_ ?_
      ·refine fc<|fa<|Em Z<|fb<|?_
       refine fp rfl ?_ ?_
       ·intro bk
        have H := ift bk H
        refine fa<|Em Z<|Em Z<|?_
        obtain ⟨e3, ca, H⟩ := bnd H
        have aT := o.mono ay
        obtain ⟨eQ, bn, c8⟩ := RowR.at aT ca
        obtain rfl := c8
        refine Eq Z (gP (T := Ty.i64) Mb6 aT bn (fO ca).1 rfl rfl rfl rfl rfl) ?_
        refine ff rfl (gW (T := Ty.i64) (vs := [(Vi 2)]) (r' := [(Vi 2)]) (l' := (fY D c 2)) rfl rfl rfl rfl rfl (.there (.there (.there (.there (.there (.there .here)))))) aT bn rfl rfl rfl (RowR.set c aT rfl) (fun cH => ?_))
        have es := i6 bn (v := [(Vi 2)])
        exact fb<|je<|je<|je<|je<|je<|gC<|Pu6<|je<|je<|je<|je<|je<|Sd<|⟨_, by exact R11, (fY D c 2), (V.set c.toNat [(Vi 2)]), rfl, rfl, rfl, H, cH⟩
       ·intro bk
        have H := f5 (btf bk) H
        refine fy<|je<|je<|je<|je<|je<|gC<|Pu6<|je<|je<|je<|je<|je<|?_
        have dy := o.mono ay
        exact Sd ⟨_, by exact R11, D, V, rfl, rfl, rfl, H, dy⟩
      rintro _ _ _ - ⟨a2, a8, rfl, rfl, rfl, H, cG⟩
      unfold oU at H
      refine fc<|fa<|Em Z<|Eq Z (gp (T := f0) bu rfl rfl)<|Em Z<|fb<|fC<|?_
      refine ga (fun cn u a n => ∃ (am : ad1) (aH : List (List Value)) (an : ad5) (aI : List (List Value)) (aD : Int), [(4, (Vp p)), (7, (Vp j)), (8, (Vp s)), (9, (sv i)), (10, (Vp A)), (11, (sv y)), (12, (sv z)), (13, (sv M)), (14, (sv x)), (15, (Vi w)), (109, (sv bd)), (110, (Vi (bf.length : Int))), (111, (Vi aD))] = u ∧ bG = a ∧ (.blk A 60 (fh aa aK aL)) :: (.blk s 27 (fq b e f)) :: (.blk j 99 (fF (fg.mk g.list P ((fg.mk g.list B C).value)) O)) :: (.blk p 27 (fq (fP.mk [] [] 0) fB fB)) :: (.row (sv z) 3 1 aH.flatten) :: (.row (sv M) 38 5 aI.flatten) :: (.tok 67 6 [(sv bd)]) :: (.row (sv y) 3 1 N.flatten) :: (.tok 40 8 [(sv x)]) :: (.row (sv i) 52 1 ab.flatten) :: (.tok 3 1 [(sv e)]) :: (.tok 36 1 [(sv f)]) :: G = n ∧ lp3 (wi ac L U w bf aa b g P B C aE) cn am an aD = some (I, Q, R) ∧ RowR Ty.i64 a aH am ∧ RowR fM a aI an) BIG ?_ ?_
      ·refine je<|je<|je<|je<|gC<|gC<|je<|je<|je<|je<|je<|je<|?_
       have dz := ah.mono ay
       exact Sd ⟨_, by exact R13, a2, a8, S, W, 0, rfl, rfl, rfl, H, cG, dz⟩
      rintro cn _ _ _ - ⟨am, aH, an, aI, aD, rfl, rfl, rfl, H, aA, aB⟩
      obtain ⟨eF, eD, rfl, cW, H⟩ := zN H
      unfold wi at H
      refine fc<|fa<|Ec Z<|fb<|fc<|?_
      refine fp rfl ?_ ?_
      ·intro av
       obtain ⟨av, H⟩ := It av H
       refine fy<|fc<|fC<|fc<|fa<|?_
       obtain ⟨h, cb, H⟩ := bnd H
       obtain ⟨_, rfl, cU⟩ := Slr.at bu cb
       refine Eq Z (Qi (T := f0) bu cb Z)<|EL 6 (fL h) Z (Rdc.k cU rfl)<|?_
       refine ff rfl (fE (cs := (fL (Done.mk 0 (Result.mk 0 0 0 false 0)))) rfl rfl rfl rfl (fun em => ?_))
       refine ff rfl (fm (vs := (fL h)) (all' := (fL h)) rfl rfl rfl rfl rfl .here rfl rfl rfl ?_)
       refine fb<|fc<|fa<|Em Z<|EF 0 Z<|El (Vi h.thread) Z (Rb0 Z)<|EF 1 Z<|EL 5 (fe h.result) Z (Rb0 Z)<|?_
       obtain ⟨e4, cc, H⟩ := bnd H
       obtain ⟨eR, bo, c9⟩ := RowR.at aB cc
       obtain rfl := c9
       refine Eq Z (gP (T := fM) Mb6 aB bo (fO cc).1 rfl rfl rfl rfl rfl) ?_
       refine ff rfl (gW (T := fM) (vs := (fe h.result)) (r' := (fe h.result)) (l' := (fY an h.thread h.result)) rfl rfl rfl rfl rfl (.there (.there (.there (.there (.there (.there .here)))))) aB bo rfl rfl rfl (RowR.set h.thread aB rfl) (fun cI => ?_))
       have et := i6 bo (v := (fe h.result))
       refine fb<|fa<|Em Z<|EF 0 Z<|El (Vi h.thread) Z (Rb0 Z)<|?_
       obtain ⟨e5, cd, H⟩ := bnd H
       obtain ⟨eS, bp, da⟩ := RowR.at aA cd
       obtain rfl := da
       refine Eq Z (gP (T := Ty.i64) Mb5 aA bp (fO cd).1 rfl rfl rfl rfl rfl) ?_
       refine ff rfl (gW (T := Ty.i64) (vs := [(Vi 3)]) (r' := [(Vi 3)]) (l' := (fY am h.thread 3)) rfl rfl rfl rfl rfl (.there (.there (.there (.there (.there .here))))) aA bp rfl rfl rfl (RowR.set h.thread aA rfl) (fun cJ => ?_))
       have eu := i6 bp (v := [(Vi 3)])
       exact fb<|fa<|Er (wI (aD + 1)) Z<|Em Z<|fb<|qt<|qt<|qt<|qt<|qt<|qt<|qt<|qt<|qt<|qt<|qt<|qt<|Re12<|Sd<|⟨_, by exact R13, _, Nat.lt_succ_self _, (fY am h.thread 3), (aH.set h.thread.toNat [(Vi 3)]), (fY an h.thread h.result), (aI.set h.thread.toNat (fe h.result)), (wI (aD + 1)), rfl, rfl, rfl, (cW ▸ H), cJ, cI⟩
      ·intro av
       obtain ⟨av, H⟩ := If av H
       refine ge<|je<|je<|je<|je<|Pu9<|Pu9<|je<|gC<|gC<|gC<|gC<|Re11<|?_
       have dA := t.mono ay
       have dB := aC.mono ay
       exact Sd ⟨_, by exact R10, L, N, am, aH, an, aI, x, U, aK, aa.chans, aL, aa.waiting, aa.tick, P, rfl, rfl, H, dA, aA, aB, dB, dw, dx⟩
     ·intro au
      obtain ⟨au, H⟩ := If au H
      refine fc<|fa<|Em Z<|Em Z<|?_
      obtain ⟨ed, ce, H⟩ := bnd H
      obtain ⟨eT, bS, db⟩ := RowR.at o ce
      obtain rfl := db
      refine Eq Z (gP (T := Ty.i64) Mb5 o bS (fO ce).1 rfl rfl rfl rfl rfl)<|El (Vi ed) Z (ie (T := Ty.i64) Mb5 o bS rfl rfl)<|Ec Z<|Ea Z<|fb<|?_
      refine fp rfl ?_ ?_
      ·intro aw
       obtain ⟨aw, H⟩ := It aw H
       refine fc ?_
       obtain ⟨ap, cf, H⟩ := bnd H
       obtain ⟨aq, cg, H⟩ := bnd H
       obtain ⟨ee, dP, H⟩ := bnd H
       refine fx _ rfl (Ic Mb0 (Ic Mb1 (Ic Mb2 (Ic Mb3 (Ic Mb4 (Ic Mb5 (Ic Mb6 (Ic Mb8 (Ic Mb9 (Ic uF In0))))))))))<|Jm 0 Z<|Jm 1 Z<|Jm 2 Z<|Jm 3 Z<|?_
       obtain ⟨eU, bT, dc⟩ := RowR.at t cf
       obtain rfl := dc
       refine Jq 4 Z (gP (T := Ty.i64) Mb4 t bT (fO cf).1 rfl rfl rfl rfl rfl)<|Jl 5 (Vi ap) Z (ie (T := Ty.i64) Mb4 t bT rfl rfl)<|Jm 6 Z<|Jm 7 Z<|?_
       obtain ⟨eV, bU, dd⟩ := RowR.at ah cg
       obtain rfl := dd
       refine Jq 8 Z (gP (T := fM) Mb6 ah bU (fO cg).1 rfl rfl rfl rfl rfl)<|JL 9 5 (fe aq) Z (ie (T := fM) Mb6 ah bU rfl rfl)<|Jq 10 Z (fH (cs := (fZ (Event.mk c ap true aq))) rfl rfl rfl rfl rfl rfl)<|?_
       refine Ao 11 Z ?_
       have bI : RowR f7 aN [(fZ (Event.mk c ap true aq))] [(Event.mk c ap true aq)] := RowR.cons rfl (RowR.nil)
       refine gh (T := f7) (rows := [(fZ (Event.mk c ap true aq))]) (l := [(Event.mk c ap true aq)]) rfl rfl rfl bI rfl rfl rfl rfl rfl rfl rfl rfl (fun e0 => ⟨(Ic Mb1 (Ic Mb2 (Ic Mb3 (Ic Mb4 (Ic Mb5 (Ic Mb6 (Ic Mb7 (Ic Mb9 (Ic uF (Ic E2 In0)))))))))), ?_⟩)
       refine Ao 12 Z ?_
       refine f6 (T := f7) (bytes := 64) (q := 0) rfl rfl rfl aC Mb8 rfl (SrcT.row Mb0 bI rfl) dP rfl rfl rfl rfl rfl rfl rfl rfl (fun d3 eh az dC => ⟨_, (.there (.there (.there (.there (.there (.there (.there (.there .here)))))))), ⟨(Ic Mb1 (Ic Mb2 (Ic Mb3 (Ic Mb4 (Ic Mb5 (Ic Mb6 (Ic Mb7 (Ic Mb9 (Ic uF (Ic E2 In0)))))))))), ?_⟩⟩)
       refine Aw.shift (Re0 (Sd ⟨(Ic Mb0 (Ic Mb1 (Ic Mb2 (Ic Mb3 (Ic Mb4 (Ic Mb5 (Ic Mb6 (Ic Mb8 (Ic Mb9 (Ic uF In0)))))))))), ?_⟩))
       refine Ja 13 Z<|Ad<|fc<|fa<|Em Z<|Em Z<|?_
       obtain ⟨ad, ch, H⟩ := bnd H
       have ai := t.mono az
       obtain ⟨eW, bV, de⟩ := RowR.at ai ch
       obtain rfl := de
       refine Eq Z (gP (T := Ty.i64) Mb4 ai bV (fO ch).1 rfl rfl rfl rfl rfl)<|El (Vi ad) Z (ie (T := Ty.i64) Mb4 ai bV rfl rfl)<|Er (wI (ad + 1)) Z<|?_
       obtain ⟨e6, ci, H⟩ := bnd H
       obtain ⟨eX, bq, df⟩ := RowR.at ai ci
       obtain rfl := df
       refine Eq Z (gP (T := Ty.i64) Mb4 ai bq (fO ci).1 rfl rfl rfl rfl rfl) ?_
       refine ff rfl (gW (T := Ty.i64) (vs := [(Vi (wI (ad + 1)))]) (r' := [(Vi (wI (ad + 1)))]) (l' := (fY L c (wI (ad + 1)))) rfl rfl rfl rfl rfl (.there (.there (.there (.there .here)))) ai bq rfl rfl rfl (RowR.set c ai rfl) (fun cK => ?_))
       have ev := i6 bq (v := [(Vi (wI (ad + 1)))])
       refine fb<|fa<|Em Z<|Em Z<|?_
       obtain ⟨e7, cj, H⟩ := bnd H
       have aU := o.mono az
       obtain ⟨eY, br, dg⟩ := RowR.at aU cj
       obtain rfl := dg
       refine Eq Z (gP (T := Ty.i64) Mb5 aU br (fO cj).1 rfl rfl rfl rfl rfl) ?_
       refine ff rfl (gW (T := Ty.i64) (vs := [(Vi 0)]) (r' := [(Vi 0)]) (l' := (fY D c 0)) rfl rfl rfl rfl rfl (.there (.there (.there (.there (.there .here))))) aU br rfl rfl rfl (RowR.set c aU rfl) (fun cL => ?_))
       have ew := i6 br (v := [(Vi 0)])
       refine fb<|gC<|gC<|gC<|gC<|gC<|gC<|gC<|gC<|gC<|gC<|gC<|?_
       have dD := ah.mono az
       have dE := aQ.mono az
       have dF := aR.mono az
       exact Sd ⟨_, by exact R10, (fY L c (wI (ad + 1))), (N.set c.toNat [(Vi (wI (ad + 1)))]), (fY D c 0), (V.set c.toNat [(Vi 0)]), S, W, d3, ee, X, E, Y, F, J, P, rfl, rfl, H, cK, cL, dD, dC, dE, dF⟩
      ·intro aw
       obtain ⟨aw, H⟩ := If aw H
       exact fy<|gC<|gC<|gC<|gC<|gC<|gC<|gC<|gC<|gC<|gC<|gC<|Sd<|⟨_, by exact R10, L, N, D, V, S, W, x, U, X, E, Y, F, J, P, rfl, rfl, H, t, o, ah, aC, aQ, aR⟩
   rintro _ ei _ ex ⟨aY, a5, aZ, a6, a0, a7, aJ, a1, bb, aF, bc, aG, aW, aX, rfl, rfl, H, cC, cD, cE, dj, dk, dl⟩
   unfold pT at H
   exact fa<|Em Z<|Er (wI (w + 1)) Z<|Ea Z<|fb<|gC<|gC<|gC<|gC<|gC<|gC<|gC<|gC<|gC<|gC<|gC<|Sd<|⟨_, by exact R10, _, Nat.lt_succ_self _, aY, a5, aZ, a6, a0, a7, aJ, a1, (wI (w + 1)), bb, aF, bc, aG, aW, aX, ((fg.mk g.list B C).value), rfl, rfl, (cV ▸ H), cC, cD, cE, dj, dk, dl⟩
  ·intro bi
   have H := f5 (btf bi) H
   exact ge<|gC<|gC<|gC<|gC<|Pu7<|Pu6<|Re6<|Re6<|Re6<|Re6<|Re6<|Sd<|⟨_, by exact R4, x, U, rfl, rfl, H, aC⟩
 rintro _ ej _ bl ⟨al, bx, rfl, rfl, H, dh⟩
 unfold wh at H
 refine fc<|fa<|EL 3 (fq b e f) Z (Rb0 Z)<|Em Z<|Em Z<|?_
 refine ff rfl (fm (vs := (fq b e f)) (all' := (fq b e f)) rfl rfl rfl rfl rfl (.there .here) rfl rfl rfl ?_)
 refine Ea Z<|Ea Z<|fb<|fz<|?_
 obtain ⟨en, eo, ep⟩ := jQ H
 subst I Q R
 refine ⟨(by first|exact .inl rfl|exact .inr rfl), [(.agg (fq b e f).toArray), (sv i), (sv al)], ⟨(.agg (fq b e f).toArray), _, rfl, ⟨_, 3, (fq b e f), rfl, rfl, rfl, rfl, ⟨rfl, Rb1 Z⟩, rfl⟩, ⟨(sv i), _, rfl, rfl, ⟨(sv al), _, rfl, rfl, rfl⟩⟩⟩, ?_⟩
 refine Pu2<|Pu3<|Pu5<|Pu5<|Re4<|Re4<|?_
 have dG := (b0.mono ag).mono bl
 have dH := (b1.mono ag).mono bl
 have dI := (bw.mono ag).mono bl
 exact Sd ⟨e, f, i, ab, al, rfl, rfl, dG, dH, dI, dh⟩
theorem Dw (p0 : ad6) (R : SV) (p1 : Int) (p2 : Int) (p3 : Int) (n : ad6) (H : sd p0 p1 p2 p3 = some n) (K : Kp) (G : List Ent) (ac : Slr f7 K (sv R) p0) :
  Fc Tryz.prog 10 #[(sv R), (Vi p1), (.int .u8 p2), (.int .u8 p3)] K (G) (fun v o w => ∃ (S : SV) (Q : List (List Value)), v = (sv S) ∧ K = o ∧ (.row (sv S) 40 8 Q.flatten) :: G = w ∧ RowR f7 o Q n) := by
 refine fN Tryz.func10 rfl Tryz.ntmps10 Tryz.results10 rfl ?_
 unfold sd at H
 refine fc<|fa<|Ea Z<|fb<|fc<|fa<|Em Z<|?_
 have ab : RowR f7 K [] [] := RowR.nil
 refine Ow.shift (Shift.nilRow 40 8 (Sd ?_))
 obtain ⟨i, ak, H⟩ := bnd H
 refine ff rfl (gZ (T := f7) (bytes := 64) rfl rfl rfl Mb0 ab (SrcT.sl ac) ak rfl rfl rfl rfl rfl rfl rfl rfl (fun h l f => ⟨_, .here, ?_⟩))
 refine Ea Z<|fb<|fc<|fc<|fa<|Em Z<|Eq Z (mZ (T := f7) Mb0 f rfl rfl rfl)<|Ec Z<|fb<|?_
 refine fp rfl ?_ ?_
 ·intro t
  obtain ⟨t, H⟩ := It t H
  refine fc<|fa<|Em Z<|Ea Z<|fb<|fz<|?_
  obtain C := gu H
  subst n
  refine ⟨(by first|exact .inl rfl|exact .inr rfl), [(sv h)], ⟨(sv h), _, rfl, rfl, rfl⟩, ?_⟩
  exact Sd ⟨h, l, rfl, rfl, rfl, f⟩
 ·intro t
  obtain ⟨t, H⟩ := If t H
  refine fy<|fc<|fa<|Em Z<|Em Z<|Eq Z (mZ (T := f7) Mb0 f rfl rfl rfl)<|?_
  obtain ⟨g, al, H⟩ := bnd H
  refine ff rfl (Ek Tryz.call12 Z (Dv p1 (i.length : Int) g al _ _ ) ?_)
  rintro _ _ _ - ⟨rfl, rfl, rfl⟩
  refine Ea Z<|fb<|fc<|fc<|fa<|Em Z<|Em Z<|?_
  obtain ⟨am, P, H⟩ := bnd H
  obtain ⟨az, F, aj⟩ := RowR.at f P
  obtain rfl := aj
  refine Eq Z (gP (T := f7) Mb0 f F (fO P).1 rfl rfl rfl rfl rfl)<|EF 2 Z<|El (.bool am.ret) Z (ie (T := f7) Mb0 f F rfl rfl)<|Eq Z (gg rfl)<|fb<|?_
  refine fp rfl ?_ ?_
  ·intro k
   have k := iC k
   have H := f5 (btf k) H
   refine fc<|fa<|Em Z<|Ea Z<|fb<|fz<|?_
   obtain C := gu H
   subst n
   refine ⟨(by first|exact .inl rfl|exact .inr rfl), [(sv h)], ⟨(sv h), _, rfl, rfl, rfl⟩, ?_⟩
   exact Sd ⟨h, l, rfl, rfl, rfl, f⟩
  ·intro k
   have k := iz k
   have H := ift k H
   refine fy ?_
   refine fA (fun U o w => ∃ (B : ad6) (u : List (List Value)), [(9, (sv h))] = U ∧ K = o ∧ (.row (sv h) 40 8 u.flatten) :: G = w ∧ pV B = some n ∧ RowR f7 o u B) ?_ ?_
   ·refine fc<|fa<|Em Z<|Eq Z (tC rfl rfl (by decide))<|fb<|fC<|fc<|fa<|Ec Z<|Ea Z<|fb<|?_
    refine fp rfl ?_ ?_
    ·intro p
     obtain ⟨p, H⟩ := It p H
     refine fa<|Em Z<|Em Z<|Em Z<|Eq Z (tC rfl rfl (by decide))<|Eq Z (kR (c := wU (Int.tmod p3 12)) rfl rfl rfl rfl)<|?_
     obtain ⟨a, I, H⟩ := bnd H
     obtain ⟨ar, x, ad⟩ := RowR.at f I
     obtain rfl := ad
     refine Eq Z (gP (T := f7) Mb0 f x (fO I).1 rfl rfl rfl rfl rfl)<|EF 3 Z<|EF 5 Z<|?_
     refine ff rfl (gW (T := f7) (vs := [(.int .u64 (wU (Int.tmod p3 12)))]) (r' := (fZ (Event.mk a.thread a.op a.ret (Result.mk a.result.kind a.result.case_ (wU (Int.tmod p3 12)) a.result.ok a.result.number)))) (l' := (fY i g (Event.mk a.thread a.op a.ret (Result.mk a.result.kind a.result.case_ (wU (Int.tmod p3 12)) a.result.ok a.result.number)))) rfl rfl rfl rfl rfl .here f x rfl rfl rfl (RowR.set g f rfl) (fun W => ?_))
     have an := i6 x (v := (fZ (Event.mk a.thread a.op a.ret (Result.mk a.result.kind a.result.case_ (wU (Int.tmod p3 12)) a.result.ok a.result.number))))
     exact fb<|Sd<|⟨_, by exact R1, (fY i g (Event.mk a.thread a.op a.ret (Result.mk a.result.kind a.result.case_ (wU (Int.tmod p3 12)) a.result.ok a.result.number))), (l.set g.toNat (fZ (Event.mk a.thread a.op a.ret (Result.mk a.result.kind a.result.case_ (wU (Int.tmod p3 12)) a.result.ok a.result.number)))), rfl, rfl, rfl, H, W⟩
    ·intro p
     obtain ⟨p, H⟩ := If p H
     refine fc<|fa<|Ec Z<|Ea Z<|fb<|?_
     refine fp rfl ?_ ?_
     ·intro q
      obtain ⟨q, H⟩ := It q H
      refine fa<|Em Z<|Em Z<|Em Z<|Em Z<|?_
      obtain ⟨m, J, H⟩ := bnd H
      obtain ⟨au, D, ae⟩ := RowR.at f J
      obtain rfl := ae
      refine Eq Z (gP (T := f7) Mb0 f D (fO J).1 rfl rfl rfl rfl rfl)<|EF 3 Z<|EF 6 Z<|El (.bool m.result.ok) Z (ie (T := f7) Mb0 f D rfl rfl)<|Eq Z (gg rfl)<|?_
      obtain ⟨b, L, H⟩ := bnd H
      obtain ⟨av, y, af⟩ := RowR.at f L
      obtain rfl := af
      refine Eq Z (gP (T := f7) Mb0 f y (fO L).1 rfl rfl rfl rfl rfl)<|EF 3 Z<|EF 6 Z<|?_
      refine ff rfl (gW (T := f7) (vs := [(.bool (!(m.result.ok)))]) (r' := (fZ (Event.mk b.thread b.op b.ret (Result.mk b.result.kind b.result.case_ b.result.value (!(m.result.ok)) b.result.number)))) (l' := (fY i g (Event.mk b.thread b.op b.ret (Result.mk b.result.kind b.result.case_ b.result.value (!(m.result.ok)) b.result.number)))) rfl rfl rfl rfl rfl .here f y rfl rfl rfl (RowR.set g f rfl) (fun X => ?_))
      have ao := i6 y (v := (fZ (Event.mk b.thread b.op b.ret (Result.mk b.result.kind b.result.case_ b.result.value (!(m.result.ok)) b.result.number))))
      exact fb<|Sd<|⟨_, by exact R1, (fY i g (Event.mk b.thread b.op b.ret (Result.mk b.result.kind b.result.case_ b.result.value (!(m.result.ok)) b.result.number))), (l.set g.toNat (fZ (Event.mk b.thread b.op b.ret (Result.mk b.result.kind b.result.case_ b.result.value (!(m.result.ok)) b.result.number)))), rfl, rfl, rfl, H, X⟩
     ·intro q
      obtain ⟨q, H⟩ := If q H
      refine fc<|fa<|Ec Z<|Ea Z<|fb<|?_
      refine fp rfl ?_ ?_
      ·intro r
       obtain ⟨r, H⟩ := It r H
       refine fa<|Em Z<|Em Z<|Em Z<|Eq Z (kR (c := wI p3) rfl rfl rfl rfl)<|Eq Z (tC rfl rfl (by decide))<|Er (wI (1 + (Int.tmod (wI p3) 7))) Z<|?_
       obtain ⟨d, M, H⟩ := bnd H
       obtain ⟨aw, z, ag⟩ := RowR.at f M
       obtain rfl := ag
       refine Eq Z (gP (T := f7) Mb0 f z (fO M).1 rfl rfl rfl rfl rfl)<|EF 3 Z<|EF 3 Z<|?_
       refine ff rfl (gW (T := f7) (vs := [(Vi (wI (1 + (Int.tmod (wI p3) 7))))]) (r' := (fZ (Event.mk d.thread d.op d.ret (Result.mk (wI (1 + (Int.tmod (wI p3) 7))) d.result.case_ d.result.value d.result.ok d.result.number)))) (l' := (fY i g (Event.mk d.thread d.op d.ret (Result.mk (wI (1 + (Int.tmod (wI p3) 7))) d.result.case_ d.result.value d.result.ok d.result.number)))) rfl rfl rfl rfl rfl .here f z rfl rfl rfl (RowR.set g f rfl) (fun Y => ?_))
       have ap := i6 z (v := (fZ (Event.mk d.thread d.op d.ret (Result.mk (wI (1 + (Int.tmod (wI p3) 7))) d.result.case_ d.result.value d.result.ok d.result.number))))
       exact fb<|Sd<|⟨_, by exact R1, (fY i g (Event.mk d.thread d.op d.ret (Result.mk (wI (1 + (Int.tmod (wI p3) 7))) d.result.case_ d.result.value d.result.ok d.result.number))), (l.set g.toNat (fZ (Event.mk d.thread d.op d.ret (Result.mk (wI (1 + (Int.tmod (wI p3) 7))) d.result.case_ d.result.value d.result.ok d.result.number)))), rfl, rfl, rfl, H, Y⟩
      ·intro r
       obtain ⟨r, H⟩ := If r H
       refine fc<|fa<|Ec Z<|Ea Z<|fb<|?_
       refine fp rfl ?_ ?_
       ·intro s
        obtain ⟨s, H⟩ := It s H
        refine fa<|Em Z<|Em Z<|?_
        obtain ⟨j, N, H⟩ := bnd H
        obtain ⟨ax, E, ah⟩ := RowR.at f N
        obtain rfl := ah
        refine Eq Z (gP (T := f7) Mb0 f E (fO N).1 rfl rfl rfl rfl rfl)<|EF 3 Z<|EF 7 Z<|El (Vi j.result.number) Z (ie (T := f7) Mb0 f E rfl rfl)<|Em Z<|Eq Z (kR (c := wI p3) rfl rfl rfl rfl)<|Eq Z (tC rfl rfl (by decide))<|Er (wI ((Int.tmod (wI p3) 3) - 1)) Z<|Er (wI (j.result.number + (wI ((Int.tmod (wI p3) 3) - 1)))) Z<|?_
        obtain ⟨e, O, H⟩ := bnd H
        obtain ⟨ay, A, ai⟩ := RowR.at f O
        obtain rfl := ai
        refine Eq Z (gP (T := f7) Mb0 f A (fO O).1 rfl rfl rfl rfl rfl)<|EF 3 Z<|EF 7 Z<|?_
        refine ff rfl (gW (T := f7) (vs := [(Vi (wI (j.result.number + (wI ((Int.tmod (wI p3) 3) - 1)))))]) (r' := (fZ (Event.mk e.thread e.op e.ret (Result.mk e.result.kind e.result.case_ e.result.value e.result.ok (wI (j.result.number + (wI ((Int.tmod (wI p3) 3) - 1)))))))) (l' := (fY i g (Event.mk e.thread e.op e.ret (Result.mk e.result.kind e.result.case_ e.result.value e.result.ok (wI (j.result.number + (wI ((Int.tmod (wI p3) 3) - 1)))))))) rfl rfl rfl rfl rfl .here f A rfl rfl rfl (RowR.set g f rfl) (fun aa => ?_))
        have aq := i6 A (v := (fZ (Event.mk e.thread e.op e.ret (Result.mk e.result.kind e.result.case_ e.result.value e.result.ok (wI (j.result.number + (wI ((Int.tmod (wI p3) 3) - 1))))))))
        exact fb<|Sd<|⟨_, by exact R1, (fY i g (Event.mk e.thread e.op e.ret (Result.mk e.result.kind e.result.case_ e.result.value e.result.ok (wI (j.result.number + (wI ((Int.tmod (wI p3) 3) - 1))))))), (l.set g.toNat (fZ (Event.mk e.thread e.op e.ret (Result.mk e.result.kind e.result.case_ e.result.value e.result.ok (wI (j.result.number + (wI ((Int.tmod (wI p3) 3) - 1)))))))), rfl, rfl, rfl, H, aa⟩
       ·intro s
        obtain ⟨s, H⟩ := If s H
        exact fy<|Sd<|⟨_, by exact R1, i, l, rfl, rfl, rfl, H, f⟩
   rintro _ _ _ - ⟨B, u, rfl, rfl, rfl, H, V⟩
   unfold pV at H
   refine fc<|fa<|Em Z<|Ea Z<|fb<|fz<|?_
   obtain C := gu H
   subst n
   refine ⟨(by first|exact .inl rfl|exact .inr rfl), [(sv h)], ⟨(sv h), _, rfl, rfl, rfl⟩, ?_⟩
   exact Sd ⟨h, u, rfl, rfl, rfl, V⟩
end Go.Hx
namespace Go.Hx
open Go Go.Proofs
set_option maxRecDepth 10000
set_option maxHeartbeats 1000000
theorem qE (p0 : Op) (b : SV) (f : SV) (p1 : Result) (c : Case) (e : Bool) (H : nA p0 p1 = some (c, e)) (K : Kp) (G : List Ent) (l : Slr fX K (sv b) p0.cases) (B : Slr Ty.i64 K (sv f) p0.draws) :
  Fc Tryz.prog 109 #[(.agg (fj p0 b f).toArray), (.agg (fe p1).toArray)] K (G) (fun v n m => v = (.tuple #[(.agg (fk c).toArray), (.bool e)]) ∧ K = n ∧ G = m) := by
 refine fN Tryz.func109 rfl Tryz.ntmps109 Tryz.results109 rfl ?_
 unfold nA at H
 refine fc<|fa<|?_
 refine ff rfl (fU (cs := (fj p0 b f)) rfl rfl rfl (fun s => ?_))
 refine ff rfl (fU (cs := (fe p1)) rfl rfl rfl (fun t => ?_))
 refine ff rfl (fE (cs := (fk (Case.mk false 0 0))) rfl rfl rfl rfl (fun u => ?_))
 refine Ea Z<|fb<|fc<|fc<|fa<|EF 0 Z<|El (Vi p0.kind) Z (Rb2 Z)<|Ec Z<|fb<|?_
 refine fp rfl ?_ ?_
 ·intro h
  obtain ⟨h, H⟩ := It h H
  refine fc ?_
  refine fA (fun z n m => ∃ (r : Bool), [(2, (Vp s)), (3, (Vp t)), (4, (Vp u)), (21, (.bool r))] = z ∧ K = n ∧ (.blk u 108 (fk (Case.mk false 0 0))) :: (.blk t 38 (fe p1)) :: (.blk s 51 (fj p0 b f)) :: G = m ∧ sk p1 p0 r = some (c, e)) ?_ ?_
  ·refine fa<|EF 1 Z<|El (Vi p1.case_) Z (Rb1 Z)<|Ec Z<|Em Z<|?_
   refine Ee Z ?_ ?_
   ·intro i
    obtain ⟨i, H⟩ := It i H
    exact Ez Z<|Ez Z<|Ez Z<|Ez Z<|Ez Z<|Ez Z<|Et Z<|fb<|Pu2<|Pu2<|Pu2<|Sd<|⟨_, by exact R4, true, rfl, rfl, rfl, H⟩
   ·intro i
    obtain ⟨i, H⟩ := If i H
    exact VF 1 Z<|Vl (Vi p1.case_) Z (Rb1 Z)<|VF 5 Z<|Vl (sv b) Z (Rb2 Z)<|Vq Z (gp (T := fX) l rfl rfl)<|Vc Z<|Ef Z<|fb<|Pu2<|Pu2<|Pu2<|Sd<|⟨_, by exact R4, (dcd (p1.case_ ≥ (p0.cases.length : Int))), rfl, rfl, rfl, H⟩
  rintro _ _ _ - ⟨r, rfl, rfl, rfl, H⟩
  unfold sk at H
  refine fp rfl ?_ ?_
  ·intro q
   have H := ift q H
   refine fc<|fa<|Eq Z (fH (cs := (fk (Case.mk false 0 0))) rfl rfl rfl rfl rfl rfl)<|?_
   refine ff rfl (fm (vs := (fk (Case.mk false 0 0))) (all' := (fk (Case.mk false 0 0))) rfl rfl rfl rfl rfl .here rfl rfl rfl ?_)
   refine Ea Z<|fb<|fz<|?_
   obtain ⟨o, p⟩ := ig H
   subst c e
   refine ⟨(by first|exact .inl rfl|exact .inr rfl), [(.agg (fk (Case.mk false 0 0)).toArray), (.bool false)], ⟨(.agg (fk (Case.mk false 0 0)).toArray), _, rfl, ⟨_, 3, (fk (Case.mk false 0 0)), rfl, rfl, rfl, rfl, ⟨rfl, Rb0 Z⟩, rfl⟩, ⟨(.bool false), _, rfl, rfl, rfl⟩⟩, ?_⟩
   exact Re0<|Re0<|Re0<|Sd<|⟨rfl, rfl, rfl⟩
  ·intro q
   have H := f5 (btf q) H
   refine fy<|fc<|fa<|EF 5 Z<|El (sv b) Z (Rb2 Z)<|EF 1 Z<|El (Vi p1.case_) Z (Rb1 Z)<|?_
   obtain ⟨g, x, H⟩ := bnd H
   obtain ⟨_, rfl, A⟩ := Slr.at l x
   refine Eq Z (Qi (T := fX) l x Z)<|EL 3 (fk g) Z (Rdc.k A rfl)<|?_
   refine ff rfl (fm (vs := (fk g)) (all' := (fk g)) rfl rfl rfl rfl rfl .here rfl rfl rfl ?_)
   refine Ea Z<|fb<|fz<|?_
   obtain ⟨o, p⟩ := ig H
   subst c e
   refine ⟨(by first|exact .inl rfl|exact .inr rfl), [(.agg (fk g).toArray), (.bool true)], ⟨(.agg (fk g).toArray), _, rfl, ⟨_, 3, (fk g), rfl, rfl, rfl, rfl, ⟨rfl, Rb0 Z⟩, rfl⟩, ⟨(.bool true), _, rfl, rfl, rfl⟩⟩, ?_⟩
   exact Re0<|Re0<|Re0<|Sd<|⟨rfl, rfl, rfl⟩
 ·intro h
  obtain ⟨h, H⟩ := If h H
  refine fy<|fc<|fa<|EL 7 (fj p0 b f) Z (Rb2 Z)<|?_
  obtain ⟨a, y, C, H⟩ := iy H
  refine ff rfl (Ek Tryz.call81 Z (An p0 b f a y C _ _ l B) ?_)
  rintro _ _ _ - ⟨rfl, rfl, rfl⟩
  refine Em Z<|Ex Z<|Ex Z<|?_
  refine ff rfl (fE (cs := (fk (Case.mk false 0 0))) rfl rfl rfl rfl (fun D => ?_))
  refine ff rfl (fm (vs := (fk a)) (all' := (fk a)) rfl rfl rfl rfl rfl .here rfl rfl rfl ?_)
  refine Ea Z<|fb<|fc<|?_
  rcases ic y with w | w <;> revert w
  ·intro j
   have H := ift j H
   refine fx _ rfl (Ic Mb0 (Ic Mb2 (Ic Mb3 In0)))<|JL 0 3 (fk a) Z (Rb0 Z)<|Jm 1 Z<|Jm 2 Z<|Aw.known (d := 36) rfl (j)<|BF 3 1 Z<|Bl 4 (Vi p1.case_) Z (Rb1 Z)<|Bc 5 Z<|Jt 6 Z<|?_
   refine Ao 7 Z ?_
   refine fm (vs := (fk a)) (all' := (fk a)) rfl rfl rfl rfl rfl (.there .here) rfl rfl rfl ⟨(Ic Mb0 (Ic Mb2 (Ic Mb3 In0))), ?_⟩
   refine Ja 8 Z<|Ad<|fz<|?_
   obtain ⟨o, p⟩ := ig H
   subst c e
   refine ⟨(by first|exact .inl rfl|exact .inr rfl), [(.agg (fk a).toArray), (.bool (dcd (p1.case_ = (-1))))], ⟨(.agg (fk a).toArray), _, rfl, ⟨_, 3, (fk a), rfl, rfl, rfl, rfl, ⟨rfl, Rb1 Z⟩, rfl⟩, ⟨(.bool (dcd (p1.case_ = (-1)))), _, rfl, rfl, rfl⟩⟩, ?_⟩
   exact Re0<|Re0<|Re0<|Re0<|Sd<|⟨rfl, rfl, rfl⟩
  ·intro j
   have H := f5 (btf j) H
   refine fx _ rfl (Ic Mb0 (Ic Mb2 (Ic Mb3 In0)))<|JL 0 3 (fk a) Z (Rb0 Z)<|Jm 1 Z<|Jm 2 Z<|Aw.known (d := 36) rfl (j)<|Jz 3 Z<|Jz 4 Z<|Jz 5 Z<|Jf 6 Z<|?_
   refine Ao 7 Z ?_
   refine fm (vs := (fk a)) (all' := (fk a)) rfl rfl rfl rfl rfl (.there .here) rfl rfl rfl ⟨(Ic Mb0 (Ic Mb2 (Ic Mb3 In0))), ?_⟩
   refine Ja 8 Z<|Ad<|fz<|?_
   obtain ⟨o, p⟩ := ig H
   subst c e
   refine ⟨(by first|exact .inl rfl|exact .inr rfl), [(.agg (fk a).toArray), (.bool false)], ⟨(.agg (fk a).toArray), _, rfl, ⟨_, 3, (fk a), rfl, rfl, rfl, rfl, ⟨rfl, Rb1 Z⟩, rfl⟩, ⟨(.bool false), _, rfl, rfl, rfl⟩⟩, ?_⟩
   exact Re0<|Re0<|Re0<|Re0<|Sd<|⟨rfl, rfl, rfl⟩
theorem iS (p0 : Result) (p1 : Bool) (p2 : Bool) (d : Bool) (H : mH p0 p1 p2 = some d) (K : Kp) (G : List Ent)  :
  Fc Tryz.prog 111 #[(.agg (fe p0).toArray), (.bool p1), (.bool p2)] K (G) (fun v f e => v = (.bool d) ∧ K = f ∧ G = e) := by
 refine fN Tryz.func111 rfl Tryz.ntmps111 Tryz.results111 rfl ?_
 unfold mH at H
 refine fc<|fa<|?_
 refine ff rfl (fU (cs := (fe p0)) rfl rfl rfl (fun k => ?_))
 refine Ea Z<|fb<|?_
 refine fA (fun j f e => ∃ (c : Bool), [(6, (.bool c))] = j ∧ K = f ∧ G = e ∧ nB c = some d) ?_ ?_
 ·refine fa<|Em Z<|Em Z<|?_
  refine Ee Z ?_ ?_
  ·intro g
   have H := ift g H
   refine Ez Z<|Ez Z<|Ez Z<|Ez Z<|gf rfl rfl rfl rfl rfl<|gf rfl rfl rfl rfl rfl<|gf rfl rfl rfl rfl rfl<|Ez Z<|Et Z<|Em Z<|Vm Z<|Vm Z<|?_
   refine Ee Z ?_ ?_
   ·intro h
    have H := ift h H
    exact Ez Z<|Ez Z<|Ez Z<|Vt Z<|Et Z<|Ea Z<|fb<|Re0<|Sd<|⟨_, by exact R1, true, rfl, rfl, rfl, H⟩
   ·intro h
    have H := f5 (btf h) H
    exact VF 4 Z<|Vl (Vi p0.number) Z (Rb0 Z)<|Vc Z<|Vf Z<|Et Z<|Ea Z<|fb<|Re0<|Sd<|⟨_, by exact R1, (dcd (p0.number = 0)), rfl, rfl, rfl, H⟩
  ·intro g
   have H := f5 (btf g) H
   refine VF 2 Z<|Vl (.int .u64 p0.value) Z (Rb0 Z)<|Vc Z<|Vm Z<|?_
   refine Ee Z ?_ ?_
   ·intro b
    obtain ⟨b, H⟩ := It b H
    refine VF 3 Z<|Vl (.bool p0.ok) Z (Rb0 Z)<|Vq Z (gg rfl)<|Vt Z<|Ef Z<|Em Z<|?_
    refine Ee Z ?_ ?_
    ·intro a
     have a := iC a
     have H := f5 (btf a) H
     refine Vm Z<|Vm Z<|?_
     refine Ee Z ?_ ?_
     ·intro i
      have H := ift i H
      exact Ez Z<|Ez Z<|Ez Z<|Vt Z<|Et Z<|Ea Z<|fb<|Re0<|Sd<|⟨_, by exact R1, true, rfl, rfl, rfl, H⟩
     ·intro i
      have H := f5 (btf i) H
      exact VF 4 Z<|Vl (Vi p0.number) Z (Rb0 Z)<|Vc Z<|Vf Z<|Et Z<|Ea Z<|fb<|Re0<|Sd<|⟨_, by exact R1, (dcd (p0.number = 0)), rfl, rfl, rfl, H⟩
    ·intro a
     have a := iz a
     have H := ift a H
     exact Ez Z<|Ez Z<|gf rfl rfl rfl rfl rfl<|gf rfl rfl rfl rfl rfl<|gf rfl rfl rfl rfl rfl<|Ez Z<|Ef Z<|Ea Z<|fb<|Re0<|Sd<|⟨_, by exact R1, false, rfl, rfl, rfl, H⟩
   ·intro b
    obtain ⟨b, H⟩ := If b H
    exact Ez Z<|Ez Z<|Ez Z<|Vf Z<|Ef Z<|Em Z<|Ez Z<|Ez Z<|gf rfl rfl rfl rfl rfl<|gf rfl rfl rfl rfl rfl<|gf rfl rfl rfl rfl rfl<|Ez Z<|Ef Z<|Ea Z<|fb<|Re0<|Sd<|⟨_, by exact R1, false, rfl, rfl, rfl, H⟩
 rintro _ _ _ - ⟨c, rfl, rfl, rfl, H⟩
 unfold nB at H
 refine fz ?_
 obtain l := gu H
 subst d
 refine ⟨(by first|exact .inl rfl|exact .inr rfl), [(.bool c)], ⟨(.bool c), _, rfl, rfl, rfl⟩, ?_⟩
 exact Sd ⟨rfl, rfl, rfl⟩
theorem xw (p0 : ad0) (i : SV) (p1 : Int) (p2 : fG) (a : SV) (e : ad0) (H : s8 p0 p1 p2 = some e) (K : Kp) (G : List Ent) (n : Slr fK K (sv i) p0) (o : Slr Ty.u64 K (sv a) p2.buffer) :
  Fc Tryz.prog 112 #[(sv i), (Vi p1), (.agg (ft p2 a).toArray)] K (G) (fun v f k => ∃ (j : SV) (h : List (List Value)), v = (sv j) ∧ K = f ∧ (.row (sv j) 104 3 h.flatten) :: G = k ∧ RowR fK f h e) := by
 refine fN Tryz.func112 rfl Tryz.ntmps112 Tryz.results112 rfl ?_
 unfold s8 at H
 refine fc<|fa<|?_
 refine ff rfl (fU (cs := (ft p2 a)) rfl rfl rfl (fun s => ?_))
 refine Ea Z<|fb<|fc<|fa<|Em Z<|?_
 have l : RowR fK K [] [] := RowR.nil
 refine Ow.shift (Shift.nilRow 104 3 (Sd ?_))
 obtain ⟨x19, q, H⟩ := bnd H
 refine ff rfl (gZ (T := fK) (bytes := 40) rfl rfl rfl Mb0 l (SrcT.sl n) q rfl rfl rfl rfl rfl rfl rfl rfl (fun d r b => ⟨_, .here, ?_⟩))
 refine Ea Z<|fb<|fc<|fa<|Em Z<|Em Z<|EL 3 (ft p2 a) Z (Rb1 Z)<|?_
 obtain ⟨z, g, H⟩ := bnd H
 obtain ⟨x, c, p⟩ := RowR.at b g
 obtain ⟨y, rfl, w⟩ := p
 refine Eq Z (gP (T := fK) Mb0 b c (fO g).1 rfl rfl rfl rfl rfl) ?_
 refine ff rfl (gW (T := fK) (vs := (ft p2 a)) (r' := (ft p2 a)) (l' := (fY x19 p1 p2)) rfl rfl rfl rfl rfl .here b c rfl rfl rfl (RowR.set p1 b ⟨a, rfl, o⟩) (fun m => ?_))
 have u := i6 c (v := (ft p2 a))
 refine fb<|fc<|fa<|Em Z<|Ea Z<|fb<|fz<|?_
 obtain t := gu H
 subst e
 refine ⟨(by first|exact .inl rfl|exact .inr rfl), [(sv d)], ⟨(sv d), _, rfl, rfl, rfl⟩, ?_⟩
 exact Re1<|Sd<|⟨d, (r.set p1.toNat (ft p2 a)), rfl, rfl, rfl, m⟩
theorem Ap (p0 : ad0) (b : SV) (p1 : Case) (p2 : Result) (e : ad0) (f : Bool) (H : te p0 p1 p2 = some (e, f)) (K : Kp) (G : List Ent) (w : Slr fK K (sv b) p0) :
  Fc Tryz.prog 110 #[(sv b), (.agg (fk p1).toArray), (.agg (fe p2).toArray)] K (G) (fun v h g => ∃ (aA : SV), v = (.tuple #[(sv aA), (.bool f)]) ∧ G = g ∧ Slr fK h (sv aA) e) := by
 refine fN Tryz.func110 rfl Tryz.ntmps110 Tryz.results110 rfl ?_
 unfold te at H
 refine fc<|fa<|?_
 refine ff rfl (fU (cs := (fk p1)) rfl rfl rfl (fun n => ?_))
 refine ff rfl (fU (cs := (fe p2)) rfl rfl rfl (fun r => ?_))
 refine Ea Z<|Ea Z<|fb<|fc<|fc<|fa<|Em Z<|EF 1 Z<|El (Vi p1.channel) Z (Rb1 Z)<|?_
 obtain ⟨a2, aY, H⟩ := bnd H
 refine ff rfl (Ek Tryz.call107 Z (l6 p0 b p1.channel a2 aY _ _ w) ?_)
 rintro _ _ _ - ⟨rfl, rfl, rfl⟩
 refine Eq Z (gg rfl)<|fb<|?_
 refine fp rfl ?_ ?_
 ·intro x
  have x := iC x
  have H := f5 (btf x) H
  refine fc<|fa<|Ea Z<|Ea Z<|fb<|fz<|?_
  obtain ⟨s, t⟩ := ig H
  subst e f
  refine ⟨(by first|exact .inl rfl|exact .inr rfl), [(sv fB), (.bool false)], ⟨(sv fB), _, rfl, rfl, ⟨(.bool false), _, rfl, rfl, rfl⟩⟩, ?_⟩
  exact Re0<|Re0<|Sd<|⟨fB, rfl, rfl, (Slr.nil fK _)⟩
 ·intro x
  have x := iz x
  have H := ift x H
  refine fy<|fc<|fa<|Em Z<|EF 1 Z<|El (Vi p1.channel) Z (Rb1 Z)<|?_
  obtain ⟨a, aw, H⟩ := bnd H
  obtain ⟨bk, aI, aG⟩ := Slr.at w aw
  obtain ⟨c, rfl, o⟩ := aI
  refine Eq Z (Qi (T := fK) w aw Z)<|EL 3 (ft a c) Z (Rdc.k aG rfl)<|?_
  refine ff rfl (fE (cs := (ft (fG.mk 0 [] false) fB)) rfl rfl rfl rfl (fun m => ?_))
  refine ff rfl (fm (vs := (ft a c)) (all' := (ft a c)) rfl rfl rfl rfl rfl .here rfl rfl rfl ?_)
  refine fb<|fc<|fC<|?_
  refine fA (fun j h g => ∃ (ae : Bool), [(0, (sv b)), (4, (Vp n)), (5, (Vp r)), (8, (Vp m)), (19, (.bool ae))] = j ∧ K = h ∧ (.blk m 104 (ft a c)) :: (.blk r 38 (fe p2)) :: (.blk n 108 (fk p1)) :: G = g ∧ td p0 a p2 p1 ae = some (e, f)) ?_ ?_
  ·refine fa<|EF 0 Z<|El (Vi p2.kind) Z (Rb1 Z)<|Ec Z<|Em Z<|?_
   refine Ee Z ?_ ?_
   ·intro F
    obtain ⟨F, H⟩ := It F H
    exact VF 0 Z<|Vl (.bool p1.send) Z (Rb2 Z)<|Et Z<|Ea Z<|fb<|Pu2<|Pu2<|Pu2<|Sd<|⟨_, by exact R5, p1.send, rfl, rfl, rfl, H⟩
   ·intro F
    obtain ⟨F, H⟩ := If F H
    exact Ez Z<|Ez Z<|Ef Z<|Ea Z<|fb<|Pu2<|Pu2<|Pu2<|Sd<|⟨_, by exact R5, false, rfl, rfl, rfl, H⟩
  rintro _ _ _ - ⟨ae, rfl, rfl, rfl, H⟩
  unfold td at H
  refine fp rfl ?_ ?_
  ·intro S
   have H := ift S H
   refine fc ?_
   refine fA (fun j h g => ∃ (af : Bool), [(0, (sv b)), (4, (Vp n)), (8, (Vp m)), (41, (.bool af))] = j ∧ K = h ∧ (.blk m 104 (ft a c)) :: (.blk n 108 (fk p1)) :: G = g ∧ oZ p0 a p1 af = some (e, f)) ?_ ?_
   ·refine fa<|EL 5 (fe p2) Z (Rb1 Z)<|?_
    obtain ⟨a3, aZ, H⟩ := bnd H
    refine ff rfl (Ek Tryz.call111 Z (iS p2 false false a3 aZ _ _ ) ?_)
    rintro _ _ _ - ⟨rfl, rfl, rfl⟩
    refine Eq Z (gg rfl)<|Em Z<|?_
    refine Ee Z ?_ ?_
    ·intro y
     have y := iC y
     have H := f5 (btf y) H
     exact Ez Z<|Ez Z<|Et Z<|Em Z<|Ez Z<|Ez Z<|Ez Z<|Ez Z<|Ez Z<|Ez Z<|Et Z<|fb<|Pu2<|Pu1<|Re2<|Sd<|⟨_, by exact R4, true, rfl, rfl, rfl, H⟩
    ·intro y
     have y := iz y
     have H := ift y H
     refine VF 2 Z<|Vl (.bool a.closed) Z (Rb0 Z)<|Ef Z<|Em Z<|?_
     refine Ee Z ?_ ?_
     ·intro U
      have H := ift U H
      exact Ez Z<|Ez Z<|Ez Z<|Ez Z<|Ez Z<|Ez Z<|Et Z<|fb<|Pu2<|Pu1<|Re2<|Sd<|⟨_, by exact R4, true, rfl, rfl, rfl, H⟩
     ·intro U
      have H := f5 (btf U) H
      exact VF 1 Z<|Vl (sv c) Z (Rb0 Z)<|Vq Z (gp (T := Ty.u64) o rfl rfl)<|VF 0 Z<|Vl (Vi a.capacity) Z (Rb0 Z)<|Vc Z<|Ef Z<|fb<|Pu2<|Pu1<|Re2<|Sd<|⟨_, by exact R4, (dcd ((a.buffer.length : Int) ≥ a.capacity)), rfl, rfl, rfl, H⟩
   rintro _ _ _ - ⟨af, rfl, rfl, rfl, H⟩
   unfold oZ at H
   refine fp rfl ?_ ?_
   ·intro V
    have H := ift V H
    refine fc<|fa<|Ea Z<|Ea Z<|fb<|fz<|?_
    obtain ⟨s, t⟩ := ig H
    subst e f
    refine ⟨(by first|exact .inl rfl|exact .inr rfl), [(sv fB), (.bool false)], ⟨(sv fB), _, rfl, rfl, ⟨(.bool false), _, rfl, rfl, rfl⟩⟩, ?_⟩
    exact Re0<|Re0<|Sd<|⟨fB, rfl, rfl, (Slr.nil fK _)⟩
   ·intro V
    have H := f5 (btf V) H
    refine fy ?_
    refine fA (fun j h g => ∃ (D : SV) (C : ad1), [(0, (sv b)), (4, (Vp n)), (8, (Vp m))] = j ∧ (.blk m 104 (ft (fG.mk a.capacity C a.closed) D)) :: (.blk n 108 (fk p1)) :: (.tok 36 1 [(sv D)]) :: G = g ∧ wy p0 a p1 C = some (e, f) ∧ Slr Ty.u64 h (sv D) C) ?_ ?_
    ·obtain ⟨bt, ab, H⟩ := bnd H
     obtain ⟨E, ac, H⟩ := bnd H
     refine fx _ rfl (Ic Mb1 In0)<|JF 0 1 Z<|JF 3 2 Z<|Jl 4 (.int .u64 p1.value) Z (Rb0 Z)<|?_
     refine gX 1 5 (by kernel_rfl) ?_ ?_
     ·refine id (Jyq Z (gv (v := (sv c)) rfl rfl rfl (Rb0 Z)) ⟨(Ic Mb1 In0), ?_⟩)
      refine gX 2 5 (by kernel_rfl) ?_ ?_
      ·refine id (Jy Z ?_)
       refine OpW.shift (Shift.nilTok1 36 1 (Sd ?_))
       refine f6 (T := Ty.u64) (bytes := 8) (q := 0) rfl rfl rfl (Slr.nil Ty.u64 _) Mb0 rfl (SrcT.sl o) ab rfl rfl rfl rfl rfl rfl rfl rfl (fun bn aC be aK => ⟨_, .here, ⟨(Ic Mb2 In0), ?_⟩⟩)
       refine Ao 5 Z ?_
       have ar : RowR Ty.u64 aC [[(.int .u64 p1.value)]] [p1.value] := RowR.cons rfl (RowR.nil)
       refine gh (T := Ty.u64) (rows := [[(.int .u64 p1.value)]]) (l := [p1.value]) rfl rfl rfl ar rfl rfl rfl rfl rfl rfl rfl rfl (fun bo => ⟨(Ic Mb3 In0), ?_⟩)
       refine Ao 6 Z ?_
       refine f6 (T := Ty.u64) (bytes := 8) (q := 0) rfl rfl rfl aK Mb1 rfl (SrcT.row Mb0 ar rfl) ac rfl rfl rfl rfl rfl rfl rfl rfl (fun ak a6 bf aL => ⟨_, (.there .here), ⟨(Ic Mb3 In0), ?_⟩⟩)
       refine Aw.shift (Re0 (Sd ⟨(Ic Mb2 In0), ?_⟩))
       refine JF 7 1 Z ?_
       refine Ao 8 Z ?_
       refine fm (vs := [(sv ak)]) (all' := (ft (fG.mk a.capacity E a.closed) ak)) rfl rfl rfl rfl rfl (.there .here) rfl rfl rfl ⟨(Ic Mb2 In0), ?_⟩
       exact Ad<|Pu2<|Pu2<|Sd<|⟨_, by exact R3, ak, E, rfl, rfl, H, aL⟩
      ·refine id (Jy Z ?_)
       have au : RowR Ty.u64 K [[(.int .u64 p1.value)]] [p1.value] := RowR.cons rfl (RowR.nil)
       refine gh (T := Ty.u64) (rows := [[(.int .u64 p1.value)]]) (l := [p1.value]) rfl rfl rfl au rfl rfl rfl rfl rfl rfl rfl rfl (fun bp => ⟨(Ic Mb2 In0), ?_⟩)
       refine Ao 2 Z ?_
       refine OpW.shift (Shift.nilTok1 36 1 (Sd ?_))
       refine f6 (T := Ty.u64) (bytes := 8) (q := 0) rfl rfl rfl (Slr.nil Ty.u64 _) Mb0 rfl (SrcT.sl o) ab rfl rfl rfl rfl rfl rfl rfl rfl (fun bq a7 aD aM => ⟨_, .here, ⟨(Ic Mb3 In0), ?_⟩⟩)
       refine Ao 6 Z ?_
       have aN := au.mono aD
       refine f6 (T := Ty.u64) (bytes := 8) (q := 0) rfl rfl rfl aM Mb0 rfl (SrcT.row Mb1 aN rfl) ac rfl rfl rfl rfl rfl rfl rfl rfl (fun al a8 bg aO => ⟨_, .here, ⟨(Ic Mb3 In0), ?_⟩⟩)
       refine Aw.shift (Re1 (Sd ⟨(Ic Mb2 In0), ?_⟩))
       refine JF 7 1 Z ?_
       refine Ao 8 Z ?_
       refine fm (vs := [(sv al)]) (all' := (ft (fG.mk a.capacity E a.closed) al)) rfl rfl rfl rfl rfl (.there .here) rfl rfl rfl ⟨(Ic Mb2 In0), ?_⟩
       exact Ad<|Pu2<|Pu2<|Sd<|⟨_, by exact R3, al, E, rfl, rfl, H, aO⟩
     ·refine id (Jy Z ?_)
      have av : RowR Ty.u64 K [[(.int .u64 p1.value)]] [p1.value] := RowR.cons rfl (RowR.nil)
      refine gh (T := Ty.u64) (rows := [[(.int .u64 p1.value)]]) (l := [p1.value]) rfl rfl rfl av rfl rfl rfl rfl rfl rfl rfl rfl (fun br => ⟨(Ic Mb2 In0), ?_⟩)
      refine gG 1 (by kernel_rfl) (Jyq Z (gv (v := (sv c)) rfl rfl rfl (Rb1 Z)) ⟨(Ic Mb2 In0), ?_⟩)
      refine Ao 2 Z ?_
      refine OpW.shift (Shift.nilTok1 36 1 (Sd ?_))
      refine f6 (T := Ty.u64) (bytes := 8) (q := 0) rfl rfl rfl (Slr.nil Ty.u64 _) Mb0 rfl (SrcT.sl o) ab rfl rfl rfl rfl rfl rfl rfl rfl (fun bs a9 aE aP => ⟨_, .here, ⟨(Ic Mb3 In0), ?_⟩⟩)
      refine Ao 6 Z ?_
      have aQ := av.mono aE
      refine f6 (T := Ty.u64) (bytes := 8) (q := 0) rfl rfl rfl aP Mb0 rfl (SrcT.row Mb1 aQ rfl) ac rfl rfl rfl rfl rfl rfl rfl rfl (fun am ba bh aR => ⟨_, .here, ⟨(Ic Mb3 In0), ?_⟩⟩)
      refine Aw.shift (Re1 (Sd ⟨(Ic Mb2 In0), ?_⟩))
      refine JF 7 1 Z ?_
      refine Ao 8 Z ?_
      refine fm (vs := [(sv am)]) (all' := (ft (fG.mk a.capacity E a.closed) am)) rfl rfl rfl rfl rfl (.there .here) rfl rfl rfl ⟨(Ic Mb2 In0), ?_⟩
      exact Ad<|Pu2<|Pu2<|Sd<|⟨_, by exact R3, am, E, rfl, rfl, H, aR⟩
    rintro _ bb _ aF ⟨D, C, rfl, rfl, H, aJ⟩
    unfold wy at H
    refine fc<|fa<|Em Z<|EF 1 Z<|El (Vi p1.channel) Z (Rb1 Z)<|EL 3 (ft (fG.mk a.capacity C a.closed) D) Z (Rb0 Z)<|?_
    obtain ⟨a4, a0, H⟩ := bnd H
    have aS := w.mono aF
    refine ff rfl (Ek Tryz.call112 Z (xw p0 b p1.channel (fG.mk a.capacity C a.closed) D a4 a0 _ _ aS aJ) ?_)
    rintro _ _ _ - ⟨an, bl, rfl, rfl, rfl, aT⟩
    refine Ea Z<|Ea Z<|fb<|fz<|?_
    obtain ⟨s, t⟩ := ig H
    subst e f
    refine ⟨(by first|exact .inl rfl|exact .inr rfl), [(sv an), (.bool true)], ⟨(sv an), _, rfl, rfl, ⟨(.bool true), _, rfl, rfl, rfl⟩⟩, ?_⟩
    refine Shift.settle (T := fK) .here aT rfl ?_
    intro bc bi aU
    exact Re0<|Re0<|Re0<|Re0<|Sd<|⟨an, rfl, rfl, aU⟩
  ·intro S
   have H := f5 (btf S) H
   refine fA (fun j h g => ∃ (ag : Bool), [(0, (sv b)), (4, (Vp n)), (5, (Vp r)), (8, (Vp m)), (55, (.bool ag))] = j ∧ K = h ∧ (.blk m 104 (ft a c)) :: (.blk r 38 (fe p2)) :: (.blk n 108 (fk p1)) :: G = g ∧ tc p0 a p2 p1 ag = some (e, f)) ?_ ?_
   ·refine fa<|EF 0 Z<|El (Vi p2.kind) Z (Rb1 Z)<|Ec Z<|Em Z<|?_
    refine Ee Z ?_ ?_
    ·intro I
     obtain ⟨I, H⟩ := It I H
     exact VF 0 Z<|Vl (.bool p1.send) Z (Rb2 Z)<|Et Z<|Ea Z<|fb<|Pu2<|Pu2<|Pu2<|Sd<|⟨_, by exact R5, p1.send, rfl, rfl, rfl, H⟩
    ·intro I
     obtain ⟨I, H⟩ := If I H
     exact Ez Z<|Ez Z<|Ef Z<|Ea Z<|fb<|Pu2<|Pu2<|Pu2<|Sd<|⟨_, by exact R5, false, rfl, rfl, rfl, H⟩
   rintro _ _ _ - ⟨ag, rfl, rfl, rfl, H⟩
   unfold tc at H
   refine fp rfl ?_ ?_
   ·intro W
    have H := ift W H
    refine fc ?_
    obtain ⟨ap, ax, H⟩ := bnd H
    rcases ic ap with i | i <;> revert i
    ·intro J
     have H := ift J H
     refine fx _ rfl (Ic Mb0 (Ic Mb1 (Ic Mb2 In0)))<|Jm 0 Z<|JL 1 5 (fe p2) Z (Rb1 Z)<|?_
     refine Ao 2 Z ?_
     refine Ek Tryz.call111 Z (iS p2 false false ap ax _ _ ) ?_
     rintro _ _ _ - ⟨rfl, rfl, rfl⟩
     refine ⟨(Ic Mb0 (Ic Mb1 (Ic Mb2 In0))), ?_⟩
     refine Jm 3 Z<|Aw.known (d := 66) rfl (J)<|BF 4 2 Z<|Bl 5 (.bool a.closed) Z (Rb0 Z)<|Jt 6 Z<|Ja 7 Z<|Ja 8 Z<|Ad<|fz<|?_
     obtain ⟨s, t⟩ := ig H
     subst e f
     refine ⟨(by first|exact .inl rfl|exact .inr rfl), [(sv b), (.bool a.closed)], ⟨(sv b), _, rfl, rfl, ⟨(.bool a.closed), _, rfl, rfl, rfl⟩⟩, ?_⟩
     exact Re0<|Re0<|Re0<|Sd<|⟨b, rfl, rfl, w⟩
    ·intro J
     have H := f5 (btf J) H
     refine fx _ rfl (Ic Mb0 (Ic Mb1 (Ic Mb2 In0)))<|Jm 0 Z<|JL 1 5 (fe p2) Z (Rb1 Z)<|?_
     refine Ao 2 Z ?_
     refine Ek Tryz.call111 Z (iS p2 false false ap ax _ _ ) ?_
     rintro _ _ _ - ⟨rfl, rfl, rfl⟩
     refine ⟨(Ic Mb0 (Ic Mb1 (Ic Mb2 In0))), ?_⟩
     refine Jm 3 Z<|Aw.known (d := 66) rfl (J)<|Jz 4 Z<|Jz 5 Z<|Jf 6 Z<|Ja 7 Z<|Ja 8 Z<|Ad<|fz<|?_
     obtain ⟨s, t⟩ := ig H
     subst e f
     refine ⟨(by first|exact .inl rfl|exact .inr rfl), [(sv b), (.bool false)], ⟨(sv b), _, rfl, rfl, ⟨(.bool false), _, rfl, rfl, rfl⟩⟩, ?_⟩
     exact Re0<|Re0<|Re0<|Sd<|⟨b, rfl, rfl, w⟩
   ·intro W
    have H := f5 (btf W) H
    refine fA (fun j h g => ∃ (ah : Bool), [(0, (sv b)), (4, (Vp n)), (5, (Vp r)), (8, (Vp m)), (70, (.bool ah))] = j ∧ K = h ∧ (.blk m 104 (ft a c)) :: (.blk r 38 (fe p2)) :: (.blk n 108 (fk p1)) :: G = g ∧ pW p0 a p2 p1 ah = some (e, f)) ?_ ?_
    ·refine fa<|EF 0 Z<|El (Vi p2.kind) Z (Rb1 Z)<|Ec Z<|Em Z<|?_
     refine Ee Z ?_ ?_
     ·intro L
      obtain ⟨L, H⟩ := It L H
      refine VF 0 Z<|Vl (.bool p1.send) Z (Rb2 Z)<|Vq Z (gg rfl)<|Et Z<|Em Z<|?_
      refine Ee Z ?_ ?_
      ·intro z
       have z := iC z
       have H := f5 (btf z) H
       exact VF 3 Z<|Vl (.bool p2.ok) Z (Rb1 Z)<|Et Z<|Ea Z<|fb<|Pu2<|Pu2<|Pu2<|Sd<|⟨_, by exact R5, p2.ok, rfl, rfl, rfl, H⟩
      ·intro z
       have z := iz z
       have H := ift z H
       exact Ez Z<|Ez Z<|Ef Z<|Ea Z<|fb<|Pu2<|Pu2<|Pu2<|Sd<|⟨_, by exact R5, false, rfl, rfl, rfl, H⟩
     ·intro L
      obtain ⟨L, H⟩ := If L H
      exact Ez Z<|Ez Z<|Ez Z<|Ef Z<|Em Z<|Ez Z<|Ez Z<|Ef Z<|Ea Z<|fb<|Pu2<|Pu2<|Pu2<|Sd<|⟨_, by exact R5, false, rfl, rfl, rfl, H⟩
    rintro _ _ _ - ⟨ah, rfl, rfl, rfl, H⟩
    unfold pW at H
    refine fp rfl ?_ ?_
    ·intro X
     have H := ift X H
     refine fc ?_
     refine fA (fun j h g => ∃ (ai : Bool), [(0, (sv b)), (4, (Vp n)), (8, (Vp m)), (100, (.bool ai))] = j ∧ K = h ∧ (.blk m 104 (ft a c)) :: (.blk n 108 (fk p1)) :: G = g ∧ o0 p0 a p1 ai = some (e, f)) ?_ ?_
     ·obtain ⟨R, ad, H⟩ := bnd H
      rcases ic (!(R)) with i | i <;> revert i
      ·intro p
       have p := iC p
       have H := f5 (btf p) H
       refine fx _ rfl (Ic Mb0 (Ic Mb1 (Ic Mb2 In0)))<|JL 0 5 (fe p2) Z (Rb1 Z)<|?_
       refine Ao 1 Z ?_
       refine Ek Tryz.call111 Z (iS p2 true false R ad _ _ ) ?_
       rintro _ _ _ - ⟨rfl, rfl, rfl⟩
       refine ⟨(Ic Mb0 (Ic Mb1 (Ic Mb2 In0))), ?_⟩
       exact Jq 2 Z (gg rfl)<|Jm 3 Z<|Aw.known (d := 86) rfl (lT (p))<|Jz 4 Z<|Jz 5 Z<|Jz 6 Z<|Jz 7 Z<|Jt 8 Z<|Jm 9 Z<|Jz 10 Z<|Jz 11 Z<|Jz 12 Z<|Jz 13 Z<|Jz 14 Z<|Jz 15 Z<|Jz 16 Z<|Jt 17 Z<|Ad<|Pu2<|Pu1<|Re2<|Sd<|⟨_, by exact R4, true, rfl, rfl, rfl, H⟩
      ·intro p
       have p := iz p
       have H := ift p H
       rcases ic (dcd ((a.buffer.length : Int) = 0)) with i | i <;> revert i
       ·intro A
        obtain ⟨A, H⟩ := It A H
        refine fx _ rfl (Ic Mb0 (Ic Mb1 (Ic Mb2 In0)))<|JL 0 5 (fe p2) Z (Rb1 Z)<|?_
        refine Ao 1 Z ?_
        refine Ek Tryz.call111 Z (iS p2 true false R ad _ _ ) ?_
        rintro _ _ _ - ⟨rfl, rfl, rfl⟩
        refine ⟨(Ic Mb0 (Ic Mb1 (Ic Mb2 In0))), ?_⟩
        exact Jq 2 Z (gg rfl)<|Jm 3 Z<|Aw.known (d := 86) rfl (lS (p))<|BF 4 1 Z<|Bl 5 (sv c) Z (Rb0 Z)<|Bq 6 Z (gp (T := Ty.u64) o rfl rfl)<|Bc 7 Z<|Jf 8 Z<|Jm 9 Z<|Aw.known (d := 92) rfl (iv A)<|Jz 10 Z<|Jz 11 Z<|Jz 12 Z<|Jz 13 Z<|Jz 14 Z<|Jz 15 Z<|Jz 16 Z<|Jt 17 Z<|Ad<|Pu2<|Pu1<|Re2<|Sd ⟨_, by exact R4, true, rfl, rfl, rfl, H⟩
       ·intro A
        obtain ⟨A, H⟩ := If A H
        obtain ⟨aB, ay, H⟩ := bnd H
        refine fx _ rfl (Ic Mb0 (Ic Mb1 (Ic Mb2 In0)))<|JL 0 5 (fe p2) Z (Rb1 Z)<|?_
        refine Ao 1 Z ?_
        refine Ek Tryz.call111 Z (iS p2 true false R ad _ _ ) ?_
        rintro _ _ _ - ⟨rfl, rfl, rfl⟩
        refine ⟨(Ic Mb0 (Ic Mb1 (Ic Mb2 In0))), ?_⟩
        refine Jq 2 Z (gg rfl)<|Jm 3 Z<|Aw.known (d := 86) rfl (lS (p))<|BF 4 1 Z<|Bl 5 (sv c) Z (Rb0 Z)<|Bq 6 Z (gp (T := Ty.u64) o rfl rfl)<|Bc 7 Z<|Jf 8 Z<|Jm 9 Z<|Aw.known (d := 92) rfl (iV A)<|BF 10 1 Z<|Bl 11 (sv c) Z (Rb0 Z)<|?_
        obtain ⟨_, rfl, aH⟩ := Slr.at o ay
        exact Bq 12 Z (Qi (T := Ty.u64) o ay Z)<|Bl 13 (.int .u64 aB) Z (Rdc.k aH rfl)<|BF 14 2 Z<|Bl 15 (.int .u64 p2.value) Z (Rb1 Z)<|Bc 16 Z<|Jf 17 Z<|Ad<|Pu2<|Pu1<|Re2<|Sd<|⟨_, by exact R4, (!(dcd (aB = p2.value))), rfl, rfl, rfl, H⟩
     rintro _ _ _ - ⟨ai, rfl, rfl, rfl, H⟩
     unfold o0 at H
     refine fp rfl ?_ ?_
     ·intro Y
      have H := ift Y H
      refine fc<|fa<|Ea Z<|Ea Z<|fb<|fz<|?_
      obtain ⟨s, t⟩ := ig H
      subst e f
      refine ⟨(by first|exact .inl rfl|exact .inr rfl), [(sv fB), (.bool false)], ⟨(sv fB), _, rfl, rfl, ⟨(.bool false), _, rfl, rfl, rfl⟩⟩, ?_⟩
      exact Re0<|Re0<|Sd<|⟨fB, rfl, rfl, (Slr.nil fK _)⟩
     ·intro Y
      have H := f5 (btf Y) H
      refine fy<|fc<|fa<|EF 1 Z<|El (sv c) Z (Rb0 Z)<|?_
      obtain ⟨aq, az, H⟩ := bnd H
      have aV := Slr.cutL o az
      refine Eq Z (lX (T := Ty.u64) o az rfl rfl rfl rfl rfl)<|EF 1 Z<|?_
      refine ff rfl (fm (vs := [(sv (jz c 1 ((1 : Int).toNat) a.buffer.length))]) (all' := (ft (fG.mk a.capacity aq a.closed) (jz c 1 ((1 : Int).toNat) a.buffer.length))) rfl rfl rfl rfl rfl .here rfl rfl rfl ?_)
      refine fb<|fc<|fa<|Em Z<|EF 1 Z<|El (Vi p1.channel) Z (Rb1 Z)<|EL 3 (ft (fG.mk a.capacity aq a.closed) (jz c 1 ((1 : Int).toNat) a.buffer.length)) Z (Rb0 Z)<|?_
      obtain ⟨a5, a1, H⟩ := bnd H
      refine ff rfl (Ek Tryz.call112 Z (xw p0 b p1.channel (fG.mk a.capacity aq a.closed) (jz c 1 ((1 : Int).toNat) a.buffer.length) a5 a1 _ _ w aV) ?_)
      rintro _ _ _ - ⟨ao, bm, rfl, rfl, rfl, aW⟩
      refine Ea Z<|Ea Z<|fb<|fz<|?_
      obtain ⟨s, t⟩ := ig H
      subst e f
      refine ⟨(by first|exact .inl rfl|exact .inr rfl), [(sv ao), (.bool true)], ⟨(sv ao), _, rfl, rfl, ⟨(.bool true), _, rfl, rfl, rfl⟩⟩, ?_⟩
      refine Shift.settle (T := fK) .here aW rfl ?_
      intro bd bj aX
      exact Re0<|Re0<|Re0<|Sd<|⟨ao, rfl, rfl, aX⟩
    ·intro X
     have H := f5 (btf X) H
     refine fA (fun j h g => ∃ (aj : Bool), [(0, (sv b)), (5, (Vp r)), (8, (Vp m)), (110, (.bool aj))] = j ∧ K = h ∧ (.blk m 104 (ft a c)) :: (.blk r 38 (fe p2)) :: G = g ∧ ta p0 a p2 aj = some (e, f)) ?_ ?_
     ·refine fa<|EF 0 Z<|El (Vi p2.kind) Z (Rb1 Z)<|Ec Z<|Em Z<|?_
      refine Ee Z ?_ ?_
      ·intro M
       obtain ⟨M, H⟩ := It M H
       exact VF 0 Z<|Vl (.bool p1.send) Z (Rb2 Z)<|Vq Z (gg rfl)<|Et Z<|Ea Z<|fb<|Pu1<|Pu1<|Re2<|Sd<|⟨_, by exact R4, (!(p1.send)), rfl, rfl, rfl, H⟩
      ·intro M
       obtain ⟨M, H⟩ := If M H
       exact Ez Z<|Ez Z<|Ez Z<|Ef Z<|Ea Z<|fb<|Pu1<|Pu1<|Re2<|Sd<|⟨_, by exact R4, false, rfl, rfl, rfl, H⟩
     rintro _ _ _ - ⟨aj, rfl, rfl, rfl, H⟩
     unfold ta at H
     refine fp rfl ?_ ?_
     ·intro aa
      have H := ift aa H
      refine fA (fun j h g => ∃ (O : Bool), [(6, (sv b)), (7, (.bool O))] = j ∧ K = h ∧ G = g ∧ s9 p0 O = some (e, f)) ?_ ?_
      ·obtain ⟨P, Q, H⟩ := bnd H
       rcases ic P with i | i <;> revert i
       ·intro B
        have H := ift B H
        rcases ic (dcd (p2.value = 0)) with i | i <;> revert i
        ·intro u
         obtain ⟨u, H⟩ := It u H
         rcases ic a.closed with i | i <;> revert i
         ·intro N
          have H := ift N H
          refine fx _ rfl (Ic Mb0 (Ic Mb1 In0))<|Jm 0 Z<|JL 1 5 (fe p2) Z (Rb1 Z)<|?_
          refine Ao 2 Z ?_
          refine Ek Tryz.call111 Z (iS p2 true false P Q _ _ ) ?_
          rintro _ _ _ - ⟨rfl, rfl, rfl⟩
          refine ⟨(Ic Mb0 (Ic Mb1 In0)), ?_⟩
          refine Jm 3 Z<|Aw.known (d := 122) rfl (B)<|BF 4 2 Z<|Bl 5 (.int .u64 p2.value) Z (Rb1 Z)<|Bc 6 Z<|Jt 7 Z<|Jm 8 Z<|Aw.known (d := 127) rfl (iv u)<|BF 9 2 Z<|Bl 10 (.bool a.closed) Z (Rb0 Z)<|Jt 11 Z<|Jm 12 Z<|Aw.known (d := 131) rfl (N)<|BF 13 1 Z<|Bl 14 (sv c) Z (Rb0 Z)<|Bq 15 Z (gp (T := Ty.u64) o rfl rfl)<|Bc 16 Z<|Jt 17 Z<|Ja 18 Z<|Ja 19 Z<|Ad<|Re0<|?_
          exact Re0<|Sd<|⟨_, by exact R2, (dcd ((a.buffer.length : Int) = 0)), rfl, rfl, rfl, H⟩
         ·intro N
          have H := f5 (btf N) H
          refine fx _ rfl (Ic Mb0 (Ic Mb1 In0))<|Jm 0 Z<|JL 1 5 (fe p2) Z (Rb1 Z)<|?_
          refine Ao 2 Z ?_
          refine Ek Tryz.call111 Z (iS p2 true false P Q _ _ ) ?_
          rintro _ _ _ - ⟨rfl, rfl, rfl⟩
          refine ⟨(Ic Mb0 (Ic Mb1 In0)), ?_⟩
          refine Jm 3 Z<|Aw.known (d := 122) rfl (B)<|BF 4 2 Z<|Bl 5 (.int .u64 p2.value) Z (Rb1 Z)<|Bc 6 Z<|Jt 7 Z<|Jm 8 Z<|Aw.known (d := 127) rfl (iv u)<|BF 9 2 Z<|Bl 10 (.bool a.closed) Z (Rb0 Z)<|Jt 11 Z<|Jm 12 Z<|Aw.known (d := 131) rfl (N)<|Jz 13 Z<|Jz 14 Z<|Jz 15 Z<|Jz 16 Z<|Jf 17 Z<|Ja 18 Z<|Ja 19 Z<|Ad<|Re0<|?_
          exact Re0<|Sd<|⟨_, by exact R2, false, rfl, rfl, rfl, H⟩
        ·intro u
         obtain ⟨u, H⟩ := If u H
         refine fx _ rfl (Ic Mb0 (Ic Mb1 In0))<|Jm 0 Z<|JL 1 5 (fe p2) Z (Rb1 Z)<|?_
         refine Ao 2 Z ?_
         refine Ek Tryz.call111 Z (iS p2 true false P Q _ _ ) ?_
         rintro _ _ _ - ⟨rfl, rfl, rfl⟩
         refine ⟨(Ic Mb0 (Ic Mb1 In0)), ?_⟩
         exact Jm 3 Z<|Aw.known (d := 122) rfl (B)<|BF 4 2 Z<|Bl 5 (.int .u64 p2.value) Z (Rb1 Z)<|Bc 6 Z<|Jt 7 Z<|Jm 8 Z<|Aw.known (d := 127) rfl (iV u)<|Jz 9 Z<|Jz 10 Z<|Jf 11 Z<|Jm 12 Z<|Jz 13 Z<|Jz 14 Z<|Jz 15 Z<|Jz 16 Z<|Jf 17 Z<|Ja 18 Z<|Ja 19 Z<|Ad<|Re0<|Re0<|Sd ⟨_, by exact R2, false, rfl, rfl, rfl, H⟩
       ·intro B
        have H := f5 (btf B) H
        refine fx _ rfl (Ic Mb0 (Ic Mb1 In0))<|Jm 0 Z<|JL 1 5 (fe p2) Z (Rb1 Z)<|?_
        refine Ao 2 Z ?_
        refine Ek Tryz.call111 Z (iS p2 true false P Q _ _ ) ?_
        rintro _ _ _ - ⟨rfl, rfl, rfl⟩
        refine ⟨(Ic Mb0 (Ic Mb1 In0)), ?_⟩
        exact Jm 3 Z<|Aw.known (d := 122) rfl (B)<|Jz 4 Z<|Jz 5 Z<|Jz 6 Z<|Jf 7 Z<|Jm 8 Z<|Jz 9 Z<|Jz 10 Z<|Jf 11 Z<|Jm 12 Z<|Jz 13 Z<|Jz 14 Z<|Jz 15 Z<|Jz 16 Z<|Jf 17 Z<|Ja 18 Z<|Ja 19 Z<|Ad<|Re0<|Re0<|Sd<|⟨_, by exact R2, false, rfl, rfl, rfl, H⟩
      rintro _ _ _ - ⟨O, rfl, rfl, rfl, H⟩
      unfold s9 at H
      refine fz ?_
      obtain ⟨s, t⟩ := ig H
      subst e f
      refine ⟨(by first|exact .inl rfl|exact .inr rfl), [(sv b), (.bool O)], ⟨(sv b), _, rfl, rfl, ⟨(.bool O), _, rfl, rfl, rfl⟩⟩, ?_⟩
      exact Sd ⟨b, rfl, rfl, w⟩
     ·intro aa
      have H := f5 (btf aa) H
      refine fy<|fc<|fa<|Ea Z<|Ea Z<|fb<|fz<|?_
      obtain ⟨s, t⟩ := ig H
      subst e f
      refine ⟨(by first|exact .inl rfl|exact .inr rfl), [(sv fB), (.bool false)], ⟨(sv fB), _, rfl, rfl, ⟨(.bool false), _, rfl, rfl, rfl⟩⟩, ?_⟩
      exact Re0<|Re0<|Sd<|⟨fB, rfl, rfl, (Slr.nil fK _)⟩
theorem DC (p0 : ad0) (g : SV) (p1 : Op) (e : SV) (f : SV) (a : Bool) (H : sn p0 p1 = some a) (K : Kp) (G : List Ent) (u : Slr fK K (sv g) p0) (w : Slr fX K (sv e) p1.cases) (x : Slr Ty.i64 K (sv f) p1.draws) :
  Fc Tryz.prog 113 #[(sv g), (.agg (fj p1 e f).toArray)] K (G) (fun v h b => v = (.bool a) ∧ G = b) := by
 refine fN Tryz.func113 rfl Tryz.ntmps113 Tryz.results113 rfl ?_
 unfold sn at H
 refine fc<|fa<|?_
 refine ff rfl (fU (cs := (fj p1 e f)) rfl rfl rfl (fun E => ?_))
 refine Ea Z<|fb<|fc<|fa<|EL 7 (fj p1 e f) Z (Rb0 Z)<|?_
 obtain ⟨o, A, H⟩ := bnd H
 refine ff rfl (Ek Tryz.call44 Z (lA p1 e f o A _ _ w x) ?_)
 rintro _ p _ r ⟨B, rfl, rfl, l⟩
 refine Ea Z<|fb<|?_
 refine fA (fun i h b => [] = i ∧ G = b ∧ wz = some a) ?_ ?_
 ·refine fc<|fa<|Ea Z<|fb<|fC<|?_
  refine ga (fun n101 i h b => ∃ (d : Int), [(0, (sv g)), (5, (sv B)), (6, (Vi d))] = i ∧ p = h ∧ G = b ∧ lp1 (wA p0 o) n101 d = some a) BIG ?_ ?_
  ·exact Re0<|Sd<|⟨_, by exact R3, 0, rfl, rfl, rfl, H⟩
  rintro n101 _ _ _ - ⟨d, rfl, rfl, rfl, H⟩
  obtain ⟨J, I, rfl, t, H⟩ := oe H
  unfold wA at H
  refine fc<|fc<|fa<|Em Z<|Em Z<|Eq Z (gp (T := fX) l rfl rfl)<|Ec Z<|fb<|?_
  refine fp rfl ?_ ?_
  ·intro c
   obtain ⟨c, H⟩ := It c H
   refine fy<|fc<|fC<|fc<|fa<|Em Z<|Em Z<|Em Z<|?_
   obtain ⟨n, m, H⟩ := bnd H
   obtain ⟨_, rfl, s⟩ := Slr.at l m
   refine Eq Z (Qi (T := fX) l m Z)<|EL 3 (fk n) Z (Rdc.k s rfl)<|?_
   obtain ⟨C, z, H⟩ := bnd H
   have y := u.mono r
   refine ff rfl (Ek Tryz.call79 Z (Ak p0 g n C z _ _ y) ?_)
   rintro _ _ _ - ⟨rfl, rfl, rfl⟩
   refine fb ?_
   refine fp rfl ?_ ?_
   ·intro j
    have H := ift j H
    refine fc<|fa<|Ea Z<|fb<|fz<|?_
    obtain q := gu H
    subst a
    refine ⟨(by first|exact .inl rfl|exact .inr rfl), [(.bool false)], ⟨(.bool false), _, rfl, rfl, rfl⟩, ?_⟩
    exact Sd ⟨rfl, rfl⟩
   ·intro j
    have H := f5 (btf j) H
    exact fy<|fa<|Em Z<|Er (wI (d + 1)) Z<|Ea Z<|fb<|Sd<|⟨_, by exact R3, _, Nat.lt_succ_self _, (wI (d + 1)), rfl, rfl, rfl, (t ▸ H)⟩
  ·intro c
   obtain ⟨c, H⟩ := If c H
   exact ge<|Sd<|⟨[], trivial, rfl, rfl, H⟩
 rintro _ D _ F ⟨rfl, rfl, H⟩
 unfold wz at H
 refine fc<|fa<|Ea Z<|fb<|fz<|?_
 obtain q := gu H
 subst a
 refine ⟨(by first|exact .inl rfl|exact .inr rfl), [(.bool true)], ⟨(.bool true), _, rfl, rfl, rfl⟩, ?_⟩
 exact Sd ⟨rfl, rfl⟩
end Go.Hx
namespace Go.Hx
open Go Go.Proofs
set_option maxRecDepth 10000
set_option maxHeartbeats 1000000
theorem DW (p0 : ad0) (a : SV) (p1 : Op) (j : SV) (l : SV) (p2 : Result) (e : ad0) (f : Bool) (H : wC p0 p1 p2 = some (e, f)) (K : Kp) (G : List Ent) (c : Slr fK K (sv a) p0) (aq : Slr fX K (sv j) p1.cases) (ar : Slr Ty.i64 K (sv l) p1.draws) :
  Fc Tryz.prog 85 #[(sv a), (.agg (fj p1 j l).toArray), (.agg (fe p2).toArray)] K (G) (fun v h g => ∃ (aN : SV), v = (.tuple #[(sv aN), (.bool f)]) ∧ G = g ∧ Slr fK h (sv aN) e) := by
 refine fN Tryz.func85 rfl Tryz.ntmps85 Tryz.results85 rfl ?_
 unfold wC at H
 refine fc<|fa<|?_
 refine ff rfl (fU (cs := (fj p1 j l)) rfl rfl rfl (fun t => ?_))
 refine ff rfl (fU (cs := (fe p2)) rfl rfl rfl (fun D => ?_))
 refine Ea Z<|Ea Z<|fb<|?_
 refine fA (fun i h g => ∃ (ac : Bool), [(0, (sv a)), (4, (Vp t)), (5, (Vp D)), (8, (.bool ac))] = i ∧ K = h ∧ (.blk D 38 (fe p2)) :: (.blk t 51 (fj p1 j l)) :: G = g ∧ tj p0 p2 p1 ac = some (e, f)) ?_ ?_
 ·refine fa<|EF 0 Z<|El (Vi p1.kind) Z (Rb1 Z)<|Ec Z<|Em Z<|?_
  refine Ee Z ?_ ?_
  ·intro I
   obtain ⟨I, H⟩ := It I H
   exact Ez Z<|Ez Z<|Ez Z<|Et Z<|Em Z<|Ez Z<|Ez Z<|Ez Z<|Et Z<|Ea Z<|fb<|Pu1<|Pu1<|Sd<|⟨_, by exact R4, true, rfl, rfl, rfl, H⟩
  ·intro I
   obtain ⟨I, H⟩ := If I H
   refine VF 0 Z<|Vl (Vi p1.kind) Z (Rb1 Z)<|Vc Z<|Ef Z<|Em Z<|?_
   refine Ee Z ?_ ?_
   ·intro J
    obtain ⟨J, H⟩ := It J H
    exact Ez Z<|Ez Z<|Ez Z<|Et Z<|Ea Z<|fb<|Pu1<|Pu1<|Sd<|⟨_, by exact R4, true, rfl, rfl, rfl, H⟩
   ·intro J
    obtain ⟨J, H⟩ := If J H
    exact VF 0 Z<|Vl (Vi p1.kind) Z (Rb1 Z)<|Vc Z<|Ef Z<|Ea Z<|fb<|Pu1<|Pu1<|Sd<|⟨_, by exact R4, (dcd (p1.kind = 4)), rfl, rfl, rfl, H⟩
 rintro _ _ _ - ⟨ac, rfl, rfl, rfl, H⟩
 unfold tj at H
 refine fc<|fc<|fa<|EF 0 Z<|El (Vi p2.kind) Z (Rb0 Z)<|fb<|fC<|?_
 refine fA (fun i h g => ∃ (av : Bool), [(0, (sv a)), (4, (Vp t)), (5, (Vp D)), (8, (.bool ac)), (29, (Vi p2.kind)), (30, (.bool av))] = i ∧ K = h ∧ (.blk D 38 (fe p2)) :: (.blk t 51 (fj p1 j l)) :: G = g ∧ o5 p0 ac p2 p1 av = some (e, f)) ?_ ?_
 ·refine fc<|fa<|Ec Z<|Ea Z<|fb<|?_
  refine fp rfl ?_ ?_
  ·intro L
   obtain ⟨L, H⟩ := It L H
   exact fy<|Pu1<|Pu1<|Sd<|⟨_, by exact R6, (dcd (p2.kind = 1)), rfl, rfl, rfl, H⟩
  ·intro L
   obtain ⟨L, H⟩ := If L H
   exact fa<|Ec Z<|Ea Z<|fb<|Pu1<|Pu1<|Sd<|⟨_, by exact R6, (dcd (p2.kind = 2)), rfl, rfl, rfl, H⟩
 rintro _ _ _ - ⟨av, rfl, rfl, rfl, H⟩
 unfold o5 at H
 refine fp rfl ?_ ?_
 ·intro ak
  have H := ift ak H
  refine fc<|fa<|EL 7 (fj p1 j l) Z (Rb1 Z)<|EL 5 (fe p2) Z (Rb0 Z)<|?_
  obtain ⟨ah, bn, bb, H⟩ := iy H
  refine ff rfl (Ek Tryz.call109 Z (qE p1 j l p2 ah bn bb _ _ aq ar) ?_)
  rintro _ _ _ - ⟨rfl, rfl, rfl⟩
  refine Em Z<|Ex Z<|Ex Z<|?_
  refine ff rfl (fE (cs := (fk (Case.mk false 0 0))) rfl rfl rfl rfl (fun bD => ?_))
  refine ff rfl (fm (vs := (fk ah)) (all' := (fk ah)) rfl rfl rfl rfl rfl .here rfl rfl rfl ?_)
  refine Ea Z<|fb<|fc<|fc<|fa<|Em Z<|Eq Z (gg rfl)<|fb<|?_
  refine fp rfl ?_ ?_
  ·intro x
   have x := iC x
   have H := f5 (btf x) H
   refine fc<|fa<|Ea Z<|Ea Z<|fb<|fz<|?_
   obtain ⟨n, o⟩ := ig H
   subst e f
   refine ⟨(by first|exact .inl rfl|exact .inr rfl), [(sv fB), (.bool false)], ⟨(sv fB), _, rfl, rfl, ⟨(.bool false), _, rfl, rfl, rfl⟩⟩, ?_⟩
   exact Re0<|Re0<|Re0<|Sd<|⟨fB, rfl, rfl, (Slr.nil fK _)⟩
  ·intro x
   have x := iz x
   have H := ift x H
   refine fy<|fc<|fa<|Em Z<|EL 3 (fk ah) Z (Rb0 Z)<|EL 5 (fe p2) Z (Rb1 Z)<|?_
   obtain ⟨bo, aA, bc, H⟩ := iy H
   refine ff rfl (Ek Tryz.call110 Z (Ap p0 a ah p2 bo aA bc _ _ c) ?_)
   rintro _ bx _ bG ⟨ax, rfl, rfl, a4⟩
   refine Ex Z<|Ex Z<|Ea Z<|Ea Z<|fb<|fz<|?_
   obtain ⟨n, o⟩ := ig H
   subst e f
   refine ⟨(by first|exact .inl rfl|exact .inr rfl), [(sv ax), (.bool aA)], ⟨(sv ax), _, rfl, rfl, ⟨(.bool aA), _, rfl, rfl, rfl⟩⟩, ?_⟩
   exact Re0<|Re0<|Re0<|Sd<|⟨ax, rfl, rfl, a4⟩
 ·intro ak
  have H := f5 (btf ak) H
  refine fc<|fa<|Ec Z<|Ea Z<|fb<|?_
  refine fp rfl ?_ ?_
  ·intro M
   obtain ⟨M, H⟩ := It M H
   refine fc<|fc<|fa<|EF 0 Z<|El (Vi p1.kind) Z (Rb1 Z)<|Ec Z<|fb<|?_
   refine fp rfl ?_ ?_
   ·intro N
    obtain ⟨N, H⟩ := It N H
    refine fA (fun i h g => ∃ (ad : Bool), [(6, (sv a)), (7, (.bool ad))] = i ∧ K = h ∧ G = g ∧ tf p0 ad = some (e, f)) ?_ ?_
    ·rcases ic (dcd (p2.case_ = (-1))) with b | b <;> revert b
     ·intro p
      obtain ⟨p, H⟩ := It p H
      obtain ⟨aj, au, H⟩ := bnd H
      rcases ic aj with b | b <;> revert b
      ·intro E
       have H := ift E H
       obtain ⟨aB, aF, H⟩ := bnd H
       rcases ic (!(aB)) with b | b <;> revert b
       ·intro q
        have q := iC q
        have H := f5 (btf q) H
        refine fx _ rfl (Ic Mb0 (Ic Mb1 In0))<|Jm 0 Z<|JF 1 1 Z<|Jl 2 (Vi p2.case_) Z (Rb0 Z)<|Jc 3 Z<|Jm 4 Z<|Aw.known (d := 56) rfl (iv p)<|BL 5 5 (fe p2) Z (Rb0 Z)<|?_
        refine gG 6 (by kernel_rfl) (kE rfl rfl rfl rfl rfl ?_)
        refine Ek Tryz.call111 Z (iS p2 false false aj au _ _ ) ?_
        rintro _ _ _ - ⟨rfl, rfl, rfl⟩
        refine ⟨(Ic Mb0 (Ic Mb1 In0)), ?_⟩
        refine Jt 7 Z<|Jm 8 Z<|Aw.known (d := 60) rfl (E)<|Bm 9 Z<|BF 10 2 Z<|Bl 11 (Vi p1.channel) Z (Rb1 Z)<|?_
        refine gG 12 (by kernel_rfl) (kE rfl rfl rfl rfl rfl ?_)
        refine Ek Tryz.call107 Z (l6 p0 a p1.channel aB aF _ _ c) ?_
        rintro _ _ _ - ⟨rfl, rfl, rfl⟩
        refine ⟨(Ic Mb0 (Ic Mb1 In0)), ?_⟩
        exact Bq 13 Z (gg rfl)<|Bm 14 Z<|Aw.known (d := 66) rfl (lT (q))<|Jz 15 Z<|Jz 16 Z<|Jz 17 Z<|Jz 18 Z<|Jz 19 Z<|Jz 20 Z<|Bt 21 Z<|Jt 22 Z<|Ja 23 Z<|Ja 24 Z<|Ad<|Re0<|Re0<|Sd<|⟨_, by exact R2, true, rfl, rfl, rfl, H⟩
       ·intro q
        have q := iz q
        have H := ift q H
        obtain ⟨aO, aG, H⟩ := bnd H
        refine fx _ rfl (Ic Mb0 (Ic Mb1 In0))<|Jm 0 Z<|JF 1 1 Z<|Jl 2 (Vi p2.case_) Z (Rb0 Z)<|Jc 3 Z<|Jm 4 Z<|Aw.known (d := 56) rfl (iv p)<|BL 5 5 (fe p2) Z (Rb0 Z)<|?_
        refine gG 6 (by kernel_rfl) (kE rfl rfl rfl rfl rfl ?_)
        refine Ek Tryz.call111 Z (iS p2 false false aj au _ _ ) ?_
        rintro _ _ _ - ⟨rfl, rfl, rfl⟩
        refine ⟨(Ic Mb0 (Ic Mb1 In0)), ?_⟩
        refine Jt 7 Z<|Jm 8 Z<|Aw.known (d := 60) rfl (E)<|Bm 9 Z<|BF 10 2 Z<|Bl 11 (Vi p1.channel) Z (Rb1 Z)<|?_
        refine gG 12 (by kernel_rfl) (kE rfl rfl rfl rfl rfl ?_)
        refine Ek Tryz.call107 Z (l6 p0 a p1.channel aB aF _ _ c) ?_
        rintro _ _ _ - ⟨rfl, rfl, rfl⟩
        refine ⟨(Ic Mb0 (Ic Mb1 In0)), ?_⟩
        refine Bq 13 Z (gg rfl)<|Bm 14 Z<|Aw.known (d := 66) rfl (lS (q))<|Bm 15 Z<|BF 16 2 Z<|Bl 17 (Vi p1.channel) Z (Rb1 Z)<|?_
        obtain ⟨bN, aZ, aU⟩ := Slr.at c aG
        obtain ⟨bT, rfl, bK⟩ := aZ
        exact Bq 18 Z (Qi (T := fK) c aG Z)<|BF 19 2 Z<|Bl 20 (.bool aO.closed) Z (Rdc.k aU rfl)<|Bf 21 Z<|Jt 22 Z<|Ja 23 Z<|Ja 24 Z<|Ad<|Re0<|Re0<|Sd<|⟨_, by exact R2, aO.closed, rfl, rfl, rfl, H⟩
      ·intro E
       have H := f5 (btf E) H
       refine fx _ rfl (Ic Mb0 (Ic Mb1 In0))<|Jm 0 Z<|JF 1 1 Z<|Jl 2 (Vi p2.case_) Z (Rb0 Z)<|Jc 3 Z<|Jm 4 Z<|Aw.known (d := 56) rfl (iv p)<|BL 5 5 (fe p2) Z (Rb0 Z)<|?_
       refine gG 6 (by kernel_rfl) (kE rfl rfl rfl rfl rfl ?_)
       refine Ek Tryz.call111 Z (iS p2 false false aj au _ _ ) ?_
       rintro _ _ _ - ⟨rfl, rfl, rfl⟩
       refine ⟨(Ic Mb0 (Ic Mb1 In0)), ?_⟩
       exact Jt 7 Z<|Jm 8 Z<|Aw.known (d := 60) rfl (E)<|Jz 9 Z<|Jz 10 Z<|Jz 11 Z<|Jz 12 Z<|Jz 13 Z<|Jz 14 Z<|gV 15 rfl (by kernel_rfl) (by kernel_rfl) (by kernel_rfl) rfl rfl rfl rfl rfl<|gV 16 rfl (by kernel_rfl) (by kernel_rfl) (by kernel_rfl) rfl rfl rfl rfl rfl<|gV 17 rfl (by kernel_rfl) (by kernel_rfl) (by kernel_rfl) rfl rfl rfl rfl rfl<|gV 18 rfl (by kernel_rfl) (by kernel_rfl) (by kernel_rfl) rfl rfl rfl rfl rfl<|gV 19 rfl (by kernel_rfl) (by kernel_rfl) (by kernel_rfl) rfl rfl rfl rfl rfl<|gV 20 rfl (by kernel_rfl) (by kernel_rfl) (by kernel_rfl) rfl rfl rfl rfl rfl<|Jz 21 Z<|Jf 22 Z<|Ja 23 Z<|Ja 24 Z<|Ad<|Re0<|Re0<|Sd ⟨_, by exact R2, false, rfl, rfl, rfl, H⟩
     ·intro p
      obtain ⟨p, H⟩ := If p H
      refine fx _ rfl (Ic Mb0 (Ic Mb1 In0))<|Jm 0 Z<|JF 1 1 Z<|Jl 2 (Vi p2.case_) Z (Rb0 Z)<|Jc 3 Z<|Jm 4 Z<|Aw.known (d := 56) rfl (iV p)<|Jz 5 Z<|Jz 6 Z<|Jf 7 Z<|Jm 8 Z<|Jz 9 Z<|Jz 10 Z<|Jz 11 Z<|Jz 12 Z<|Jz 13 Z<|Jz 14 Z<|gV 15 rfl (by kernel_rfl) (by kernel_rfl) (by kernel_rfl) rfl rfl rfl rfl rfl<|gV 16 rfl (by kernel_rfl) (by kernel_rfl) (by kernel_rfl) rfl rfl rfl rfl rfl<|gV 17 rfl (by kernel_rfl) (by kernel_rfl) (by kernel_rfl) rfl rfl rfl rfl rfl<|gV 18 rfl (by kernel_rfl) (by kernel_rfl) (by kernel_rfl) rfl rfl rfl rfl rfl<|gV 19 rfl (by kernel_rfl) (by kernel_rfl) (by kernel_rfl) rfl rfl rfl rfl rfl<|?_
      exact gV 20 rfl (by kernel_rfl) (by kernel_rfl) (by kernel_rfl) rfl rfl rfl rfl rfl<|Jz 21 Z<|Jf 22 Z<|Ja 23 Z<|Ja 24 Z<|Ad<|Re0<|Re0<|Sd<|⟨_, by exact R2, false, rfl, rfl, rfl, H⟩
    rintro _ _ _ - ⟨ad, rfl, rfl, rfl, H⟩
    unfold tf at H
    refine fz ?_
    obtain ⟨n, o⟩ := ig H
    subst e f
    refine ⟨(by first|exact .inl rfl|exact .inr rfl), [(sv a), (.bool ad)], ⟨(sv a), _, rfl, rfl, ⟨(.bool ad), _, rfl, rfl, rfl⟩⟩, ?_⟩
    exact Sd ⟨a, rfl, rfl, c⟩
   ·intro N
    obtain ⟨N, H⟩ := If N H
    refine fy<|fc<|fa<|EL 7 (fj p1 j l) Z (Rb1 Z)<|EL 5 (fe p2) Z (Rb0 Z)<|?_
    obtain ⟨ai, bp, bd, H⟩ := iy H
    refine ff rfl (Ek Tryz.call109 Z (qE p1 j l p2 ai bp bd _ _ aq ar) ?_)
    rintro _ _ _ - ⟨rfl, rfl, rfl⟩
    refine Em Z<|Ex Z<|Ex Z<|?_
    refine ff rfl (fE (cs := (fk (Case.mk false 0 0))) rfl rfl rfl rfl (fun bE => ?_))
    refine ff rfl (fm (vs := (fk ai)) (all' := (fk ai)) rfl rfl rfl rfl rfl .here rfl rfl rfl ?_)
    refine Ea Z<|fb<|fc<|fc<|fa<|Em Z<|Eq Z (gg rfl)<|fb<|?_
    refine fp rfl ?_ ?_
    ·intro y
     have y := iC y
     have H := f5 (btf y) H
     refine fc<|fa<|Ea Z<|Ea Z<|fb<|fz<|?_
     obtain ⟨n, o⟩ := ig H
     subst e f
     refine ⟨(by first|exact .inl rfl|exact .inr rfl), [(sv fB), (.bool false)], ⟨(sv fB), _, rfl, rfl, ⟨(.bool false), _, rfl, rfl, rfl⟩⟩, ?_⟩
     exact Re0<|Re0<|Re0<|Sd<|⟨fB, rfl, rfl, (Slr.nil fK _)⟩
    ·intro y
     have y := iz y
     have H := ift y H
     refine fy<|fc<|fa<|Em Z<|EL 3 (fk ai) Z (Rb0 Z)<|EL 5 (fe p2) Z (Rb1 Z)<|?_
     obtain ⟨bq, aC, be, H⟩ := iy H
     refine ff rfl (Ek Tryz.call110 Z (Ap p0 a ai p2 bq aC be _ _ c) ?_)
     rintro _ bz _ bH ⟨ay, rfl, rfl, a5⟩
     refine Ex Z<|Ex Z<|Ea Z<|Ea Z<|fb<|fz<|?_
     obtain ⟨n, o⟩ := ig H
     subst e f
     refine ⟨(by first|exact .inl rfl|exact .inr rfl), [(sv ay), (.bool aC)], ⟨(sv ay), _, rfl, rfl, ⟨(.bool aC), _, rfl, rfl, rfl⟩⟩, ?_⟩
     exact Re0<|Re0<|Re0<|Sd<|⟨ay, rfl, rfl, a5⟩
  ·intro M
   obtain ⟨M, H⟩ := If M H
   refine fc<|fa<|Ec Z<|Ea Z<|fb<|?_
   refine fp rfl ?_ ?_
   ·intro O
    obtain ⟨O, H⟩ := It O H
    refine fc ?_
    refine fA (fun i h g => ∃ (aw : Bool), [(0, (sv a)), (4, (Vp t)), (118, (.bool aw))] = i ∧ K = h ∧ (.blk t 51 (fj p1 j l)) :: G = g ∧ pX p0 p1 aw = some (e, f)) ?_ ?_
    ·refine fa<|EF 0 Z<|El (Vi p1.kind) Z (Rb1 Z)<|Ec Z<|Em Z<|?_
     refine Ee Z ?_ ?_
     ·intro z
      have z := lO (iC (z))
      have H := f5 z H
      refine Ez Z<|Ez Z<|Ez Z<|Et Z<|Em Z<|Ez Z<|Ez Z<|Ez Z<|Et Z<|Em Z<|Ez Z<|Ez Z<|Ez Z<|Ez Z<|Ez Z<|Et Z<|Em Z<|Ez Z<|Ez Z<|Ez Z<|Ez Z<|Ez Z<|?_
      exact Ez Z<|Et Z<|fb<|Pu1<|Re1<|Sd<|⟨_, by exact R3, true, rfl, rfl, rfl, H⟩
     ·intro z
      have z := lP (iz (z))
      have H := ift z H
      refine VF 1 Z<|Vl (Vi p2.case_) Z (Rb0 Z)<|Vc Z<|Ef Z<|Em Z<|?_
      refine Ee Z ?_ ?_
      ·intro A
       have A := lO (iC (A))
       have H := f5 A H
       exact Ez Z<|Ez Z<|Ez Z<|Et Z<|Em Z<|Ez Z<|Ez Z<|Ez Z<|Ez Z<|Ez Z<|Et Z<|Em Z<|Ez Z<|Ez Z<|Ez Z<|Ez Z<|Ez Z<|Ez Z<|Et Z<|fb<|Pu1<|Re1<|Sd ⟨_, by exact R3, true, rfl, rfl, rfl, H⟩
      ·intro A
       have A := lP (iz (A))
       have H := ift A H
       refine VL 5 (fe p2) Z (Rb0 Z) ?_
       obtain ⟨br, bf, H⟩ := bnd H
       refine ij rfl rfl rfl rfl (Ek Tryz.call111 Z (iS p2 false false br bf _ _ ) ?_)
       rintro _ _ _ - ⟨rfl, rfl, rfl⟩
       refine Vq Z (gg rfl)<|Ef Z<|Em Z<|?_
       refine Ee Z ?_ ?_
       ·intro B
        have B := iC B
        have H := f5 (btf B) H
        exact Ez Z<|Ez Z<|Ez Z<|Ez Z<|Ez Z<|Et Z<|Em Z<|Ez Z<|Ez Z<|Ez Z<|Ez Z<|Ez Z<|Ez Z<|Et Z<|fb<|Pu1<|Re1<|Sd<|⟨_, by exact R3, true, rfl, rfl, rfl, H⟩
       ·intro B
        have B := iz B
        have H := ift B H
        refine Vm Z<|VF 2 Z<|Vl (Vi p1.channel) Z (Rb1 Z)<|?_
        obtain ⟨bs, bg, H⟩ := bnd H
        refine ij rfl rfl rfl rfl (Ek Tryz.call107 Z (l6 p0 a p1.channel bs bg _ _ c) ?_)
        rintro _ _ _ - ⟨rfl, rfl, rfl⟩
        refine Vq Z (gg rfl)<|Ef Z<|Em Z<|?_
        refine Ee Z ?_ ?_
        ·intro C
         have C := iC C
         have H := f5 (btf C) H
         exact Ez Z<|Ez Z<|Ez Z<|Ez Z<|Ez Z<|Ez Z<|Et Z<|fb<|Pu1<|Re1<|Sd<|⟨_, by exact R3, true, rfl, rfl, rfl, H⟩
        ·intro C
         have C := iz C
         have H := ift C H
         refine Vm Z<|VF 2 Z<|Vl (Vi p1.channel) Z (Rb1 Z)<|?_
         obtain ⟨aP, aH, H⟩ := bnd H
         obtain ⟨bO, a0, aV⟩ := Slr.at c aH
         obtain ⟨bU, rfl, bL⟩ := a0
         exact Vq Z (Qi (T := fK) c aH Z)<|VF 2 Z<|Vl (.bool aP.closed) Z (Rdc.k aV rfl)<|Ef Z<|fb<|Pu1<|Re1<|Sd<|⟨_, by exact R3, aP.closed, rfl, rfl, rfl, H⟩
    rintro _ _ _ - ⟨aw, rfl, rfl, rfl, H⟩
    unfold pX at H
    refine fp rfl ?_ ?_
    ·intro al
     have H := ift al H
     refine fc<|fa<|Ea Z<|Ea Z<|fb<|fz<|?_
     obtain ⟨n, o⟩ := ig H
     subst e f
     refine ⟨(by first|exact .inl rfl|exact .inr rfl), [(sv fB), (.bool false)], ⟨(sv fB), _, rfl, rfl, ⟨(.bool false), _, rfl, rfl, rfl⟩⟩, ?_⟩
     exact Re0<|Sd<|⟨fB, rfl, rfl, (Slr.nil fK _)⟩
    ·intro al
     have H := f5 (btf al) H
     refine fy<|fc<|fa<|Em Z<|EF 2 Z<|El (Vi p1.channel) Z (Rb0 Z)<|?_
     obtain ⟨s, aI, H⟩ := bnd H
     obtain ⟨bP, a1, aW⟩ := Slr.at c aI
     obtain ⟨F, rfl, a6⟩ := a1
     refine Eq Z (Qi (T := fK) c aI Z)<|EL 3 (ft s F) Z (Rdc.k aW rfl)<|?_
     refine ff rfl (fE (cs := (ft (fG.mk 0 [] false) fB)) rfl rfl rfl rfl (fun bF => ?_))
     refine ff rfl (fm (vs := (ft s F)) (all' := (ft s F)) rfl rfl rfl rfl rfl .here rfl rfl rfl ?_)
     refine fb<|fc<|fa<|EF 2 Z<|?_
     refine ff rfl (fm (vs := [(.bool true)]) (all' := (ft (fG.mk s.capacity s.buffer true) F)) rfl rfl rfl rfl rfl .here rfl rfl rfl ?_)
     refine fb<|fc<|fa<|Em Z<|EF 2 Z<|El (Vi p1.channel) Z (Rb1 Z)<|EL 3 (ft (fG.mk s.capacity s.buffer true) F) Z (Rb0 Z)<|?_
     obtain ⟨bt, bh, H⟩ := bnd H
     refine ff rfl (Ek Tryz.call112 Z (xw p0 a p1.channel (fG.mk s.capacity s.buffer true) F bt bh _ _ c a6) ?_)
     rintro _ _ _ - ⟨az, bS, rfl, rfl, rfl, a7⟩
     refine Ea Z<|Ea Z<|fb<|fz<|?_
     obtain ⟨n, o⟩ := ig H
     subst e f
     refine ⟨(by first|exact .inl rfl|exact .inr rfl), [(sv az), (.bool true)], ⟨(sv az), _, rfl, rfl, ⟨(.bool true), _, rfl, rfl, rfl⟩⟩, ?_⟩
     refine Shift.settle (T := fK) .here a7 rfl ?_
     intro bA bI a8
     exact Re0<|Re0<|Re0<|Sd<|⟨az, rfl, rfl, a8⟩
   ·intro O
    obtain ⟨O, H⟩ := If O H
    refine fc<|fa<|Ec Z<|Ea Z<|fb<|?_
    refine fp rfl ?_ ?_
    ·intro P
     obtain ⟨P, H⟩ := It P H
     refine fA (fun i h g => ∃ (ae : Bool), [(6, (sv a)), (7, (.bool ae))] = i ∧ G = g ∧ pY p0 ae = some (e, f)) ?_ ?_
     ·refine fa<|Em Z<|Em Z<|Em Z<|?_
      refine Ee Z ?_ ?_
      ·intro am
       have H := ift am H
       refine VF 1 Z<|Vl (Vi p1.mode) Z (Rb1 Z)<|Vc Z<|Et Z<|Em Z<|?_
       refine Ee Z ?_ ?_
       ·intro Q
        obtain ⟨Q, H⟩ := It Q H
        refine VF 1 Z<|Vl (Vi p2.case_) Z (Rb0 Z)<|Vc Z<|Et Z<|Em Z<|?_
        refine Ee Z ?_ ?_
        ·intro R
         obtain ⟨R, H⟩ := It R H
         refine VL 5 (fe p2) Z (Rb0 Z) ?_
         obtain ⟨bu, bi, H⟩ := bnd H
         refine ij rfl rfl rfl rfl (Ek Tryz.call111 Z (iS p2 false false bu bi _ _ ) ?_)
         rintro _ _ _ - ⟨rfl, rfl, rfl⟩
         refine Et Z<|Em Z<|?_
         refine Ee Z ?_ ?_
         ·intro an
          have H := ift an H
          refine Vm Z<|VL 7 (fj p1 j l) Z (Rb1 Z)<|?_
          obtain ⟨aQ, bj, H⟩ := bnd H
          refine ij rfl rfl rfl rfl (Ek Tryz.call113 Z (DC p0 a p1 j l aQ bj _ _ c aq ar) ?_)
          rintro _ bB _ bJ ⟨rfl, rfl⟩
          exact Et Z<|Ea Z<|Ea Z<|fb<|Re0<|Re0<|Sd<|⟨_, by exact R2, aQ, rfl, rfl, H⟩
         ·intro an
          have H := f5 (btf an) H
          exact Ez Z<|Ez Z<|Ez Z<|Ef Z<|Ea Z<|Ea Z<|fb<|Re0<|Re0<|Sd<|⟨_, by exact R2, false, rfl, rfl, H⟩
        ·intro R
         obtain ⟨R, H⟩ := If R H
         exact Ez Z<|Ez Z<|Ef Z<|Em Z<|Ez Z<|Ez Z<|Ez Z<|Ef Z<|Ea Z<|Ea Z<|fb<|Re0<|Re0<|Sd<|⟨_, by exact R2, false, rfl, rfl, H⟩
       ·intro Q
        obtain ⟨Q, H⟩ := If Q H
        exact Ez Z<|Ez Z<|Ez Z<|Ef Z<|Em Z<|Ez Z<|Ez Z<|Ef Z<|Em Z<|Ez Z<|Ez Z<|Ez Z<|Ef Z<|Ea Z<|Ea Z<|fb<|Re0<|Re0<|Sd<|⟨_, by exact R2, false, rfl, rfl, H⟩
      ·intro am
       have H := f5 (btf am) H
       refine Ez Z<|Ez Z<|Ez Z<|Ef Z<|Em Z<|Ez Z<|Ez Z<|Ez Z<|Ef Z<|Em Z<|Ez Z<|Ez Z<|Ef Z<|Em Z<|Ez Z<|Ez Z<|Ez Z<|Ef Z<|Ea Z<|Ea Z<|fb<|Re0<|?_
       exact Re0<|Sd<|⟨_, by exact R2, false, rfl, rfl, H⟩
     rintro _ bC _ aT ⟨ae, rfl, rfl, H⟩
     unfold pY at H
     refine fz ?_
     obtain ⟨n, o⟩ := ig H
     subst e f
     refine ⟨(by first|exact .inl rfl|exact .inr rfl), [(sv a), (.bool ae)], ⟨(sv a), _, rfl, rfl, ⟨(.bool ae), _, rfl, rfl, rfl⟩⟩, ?_⟩
     have a9 := c.mono aT
     exact Sd ⟨a, rfl, rfl, a9⟩
    ·intro P
     obtain ⟨P, H⟩ := If P H
     refine fc<|fa<|Ec Z<|Ea Z<|fb<|?_
     refine fp rfl ?_ ?_
     ·intro S
      obtain ⟨S, H⟩ := It S H
      refine fA (fun i h g => ∃ (af : Bool), [(6, (sv a)), (7, (.bool af))] = i ∧ K = h ∧ G = g ∧ tg p0 af = some (e, f)) ?_ ?_
      ·refine fa<|Em Z<|Em Z<|Em Z<|?_
       refine Ee Z ?_ ?_
       ·intro ao
        have H := ift ao H
        refine VF 1 Z<|Vl (Vi p1.mode) Z (Rb1 Z)<|Vc Z<|Et Z<|Em Z<|?_
        refine Ee Z ?_ ?_
        ·intro U
         obtain ⟨U, H⟩ := It U H
         refine VF 1 Z<|Vl (Vi p2.case_) Z (Rb0 Z)<|Vc Z<|Et Z<|Em Z<|?_
         refine Ee Z ?_ ?_
         ·intro V
          obtain ⟨V, H⟩ := It V H
          refine VL 5 (fe p2) Z (Rb0 Z) ?_
          obtain ⟨aR, bk, H⟩ := bnd H
          refine ij rfl rfl rfl rfl (Ek Tryz.call111 Z (iS p2 false false aR bk _ _ ) ?_)
          rintro _ _ _ - ⟨rfl, rfl, rfl⟩
          exact Et Z<|Ea Z<|Ea Z<|fb<|Re0<|Re0<|Sd<|⟨_, by exact R2, aR, rfl, rfl, rfl, H⟩
         ·intro V
          obtain ⟨V, H⟩ := If V H
          exact Ez Z<|Ez Z<|Ef Z<|Ea Z<|Ea Z<|fb<|Re0<|Re0<|Sd<|⟨_, by exact R2, false, rfl, rfl, rfl, H⟩
        ·intro U
         obtain ⟨U, H⟩ := If U H
         exact Ez Z<|Ez Z<|Ez Z<|Ef Z<|Em Z<|Ez Z<|Ez Z<|Ef Z<|Ea Z<|Ea Z<|fb<|Re0<|Re0<|Sd<|⟨_, by exact R2, false, rfl, rfl, rfl, H⟩
       ·intro ao
        have H := f5 (btf ao) H
        exact Ez Z<|Ez Z<|Ez Z<|Ef Z<|Em Z<|Ez Z<|Ez Z<|Ez Z<|Ef Z<|Em Z<|Ez Z<|Ez Z<|Ef Z<|Ea Z<|Ea Z<|fb<|Re0<|Re0<|Sd<|⟨_, by exact R2, false, rfl, rfl, rfl, H⟩
      rintro _ _ _ - ⟨af, rfl, rfl, rfl, H⟩
      unfold tg at H
      refine fz ?_
      obtain ⟨n, o⟩ := ig H
      subst e f
      refine ⟨(by first|exact .inl rfl|exact .inr rfl), [(sv a), (.bool af)], ⟨(sv a), _, rfl, rfl, ⟨(.bool af), _, rfl, rfl, rfl⟩⟩, ?_⟩
      exact Sd ⟨a, rfl, rfl, c⟩
     ·intro S
      obtain ⟨S, H⟩ := If S H
      refine fc<|fa<|Ec Z<|Ea Z<|fb<|?_
      refine fp rfl ?_ ?_
      ·intro W
       obtain ⟨W, H⟩ := It W H
       refine fc<|fa<|Ea Z<|fb<|?_
       refine fA (fun i h g => ∃ (ab : Int), [(0, (sv a)), (4, (Vp t)), (5, (Vp D)), (14, (Vi ab))] = i ∧ K = h ∧ (.blk D 38 (fe p2)) :: (.blk t 51 (fj p1 j l)) :: G = g ∧ o4 p0 p2 p1 ab = some (e, f)) ?_ ?_
       ·refine fc<|fa<|Em Z<|EF 2 Z<|El (Vi p1.channel) Z (Rb1 Z)<|?_
        obtain ⟨bv, bl, H⟩ := bnd H
        refine ff rfl (Ek Tryz.call107 Z (l6 p0 a p1.channel bv bl _ _ c) ?_)
        rintro _ _ _ - ⟨rfl, rfl, rfl⟩
        refine fb ?_
        refine fp rfl ?_ ?_
        ·intro ap
         have H := ift ap H
         refine fc<|fa<|Em Z<|EF 2 Z<|El (Vi p1.channel) Z (Rb1 Z)<|?_
         obtain ⟨bw, aJ, H⟩ := bnd H
         obtain ⟨bQ, a2, aX⟩ := Slr.at c aJ
         obtain ⟨bm, rfl, ba⟩ := a2
         refine Eq Z (Qi (T := fK) c aJ Z)<|EF 1 Z<|El (sv bm) Z (Rdc.k aX rfl)<|Eq Z (gp (T := Ty.u64) ba rfl rfl)<|Ea Z<|fb<|fc<|fa<|EF 0 Z<|El (Vi p1.kind) Z (Rb1 Z)<|Ec Z<|fb<|?_
         refine fp rfl ?_ ?_
         ·intro X
          obtain ⟨X, H⟩ := It X H
          refine fa<|Em Z<|EF 2 Z<|El (Vi p1.channel) Z (Rb1 Z)<|?_
          obtain ⟨aS, aK, H⟩ := bnd H
          obtain ⟨bR, a3, aY⟩ := Slr.at c aK
          obtain ⟨bV, rfl, bM⟩ := a3
          exact Eq Z (Qi (T := fK) c aK Z)<|EF 0 Z<|El (Vi aS.capacity) Z (Rdc.k aY rfl)<|Ea Z<|fb<|Pu1<|Pu1<|Sd<|⟨_, by exact R4, aS.capacity, rfl, rfl, rfl, H⟩
         ·intro X
          obtain ⟨X, H⟩ := If X H
          exact fy<|Pu1<|Pu1<|Sd<|⟨_, by exact R4, (bw.buffer.length : Int), rfl, rfl, rfl, H⟩
        ·intro ap
         have H := f5 (btf ap) H
         exact fy<|Pu1<|Pu1<|Sd<|⟨_, by exact R4, 0, rfl, rfl, rfl, H⟩
       rintro _ _ _ - ⟨ab, rfl, rfl, rfl, H⟩
       unfold o4 at H
       refine fA (fun i h g => ∃ (ag : Bool), [(6, (sv a)), (7, (.bool ag))] = i ∧ K = h ∧ G = g ∧ mQ p0 ag = some (e, f)) ?_ ?_
       ·rcases ic (dcd (p1.kind = 5)) with b | b <;> revert b
        ·intro m
         obtain ⟨m, H⟩ := It m H
         rcases ic (dcd (p2.case_ = (-1))) with b | b <;> revert b
         ·intro u
          obtain ⟨u, H⟩ := It u H
          obtain ⟨aD, aL, H⟩ := bnd H
          rcases ic aD with b | b <;> revert b
          ·intro Y
           have H := ift Y H
           refine fx _ rfl (Ic Mb0 (Ic Mb1 In0))<|Jm 0 Z<|JF 1 0 Z<|Jl 2 (Vi p1.kind) Z (Rb1 Z)<|Jc 3 Z<|Jm 4 Z<|Aw.known (d := 197) rfl (iv m)<|Jz 5 Z<|Jz 6 Z<|Jz 7 Z<|Jt 8 Z<|Jm 9 Z<|BF 10 1 Z<|Bl 11 (Vi p2.case_) Z (Rb0 Z)<|Bc 12 Z<|Jt 13 Z<|Jm 14 Z<|Aw.known (d := 207) rfl (iv u)<|BL 15 5 (fe p2) Z (Rb0 Z)<|?_
           refine gG 16 (by kernel_rfl) (kE rfl rfl rfl rfl rfl ?_)
           refine Ek Tryz.call111 Z (iS p2 false true aD aL _ _ ) ?_
           rintro _ _ _ - ⟨rfl, rfl, rfl⟩
           refine ⟨(Ic Mb0 (Ic Mb1 In0)), ?_⟩
           exact Jt 17 Z<|Jm 18 Z<|Aw.known (d := 211) rfl (Y)<|BF 19 4 Z<|Bl 20 (Vi p2.number) Z (Rb0 Z)<|Bm 21 Z<|Bc 22 Z<|Jt 23 Z<|Ja 24 Z<|Ja 25 Z<|Ad<|Re0<|Re0<|Sd<|⟨_, by exact R2, (dcd (p2.number = ab)), rfl, rfl, rfl, H⟩
          ·intro Y
           have H := f5 (btf Y) H
           refine fx _ rfl (Ic Mb0 (Ic Mb1 In0))<|Jm 0 Z<|JF 1 0 Z<|Jl 2 (Vi p1.kind) Z (Rb1 Z)<|Jc 3 Z<|Jm 4 Z<|Aw.known (d := 197) rfl (iv m)<|Jz 5 Z<|Jz 6 Z<|Jz 7 Z<|Jt 8 Z<|Jm 9 Z<|BF 10 1 Z<|Bl 11 (Vi p2.case_) Z (Rb0 Z)<|Bc 12 Z<|Jt 13 Z<|Jm 14 Z<|Aw.known (d := 207) rfl (iv u)<|BL 15 5 (fe p2) Z (Rb0 Z)<|?_
           refine gG 16 (by kernel_rfl) (kE rfl rfl rfl rfl rfl ?_)
           refine Ek Tryz.call111 Z (iS p2 false true aD aL _ _ ) ?_
           rintro _ _ _ - ⟨rfl, rfl, rfl⟩
           refine ⟨(Ic Mb0 (Ic Mb1 In0)), ?_⟩
           exact Jt 17 Z<|Jm 18 Z<|Aw.known (d := 211) rfl (Y)<|Jz 19 Z<|Jz 20 Z<|Jz 21 Z<|Jz 22 Z<|Jf 23 Z<|Ja 24 Z<|Ja 25 Z<|Ad<|Re0<|Re0<|Sd<|⟨_, by exact R2, false, rfl, rfl, rfl, H⟩
         ·intro u
          obtain ⟨u, H⟩ := If u H
          refine fx _ rfl (Ic Mb0 (Ic Mb1 In0))<|Jm 0 Z<|JF 1 0 Z<|Jl 2 (Vi p1.kind) Z (Rb1 Z)<|Jc 3 Z<|Jm 4 Z<|Aw.known (d := 197) rfl (iv m)<|Jz 5 Z<|Jz 6 Z<|Jz 7 Z<|Jt 8 Z<|Jm 9 Z<|BF 10 1 Z<|Bl 11 (Vi p2.case_) Z (Rb0 Z)<|Bc 12 Z<|Jt 13 Z<|Jm 14 Z<|Aw.known (d := 207) rfl (iV u)<|Jz 15 Z<|Jz 16 Z<|Jf 17 Z<|Jm 18 Z<|?_
          exact Jz 19 Z<|Jz 20 Z<|Jz 21 Z<|Jz 22 Z<|Jf 23 Z<|Ja 24 Z<|Ja 25 Z<|Ad<|Re0<|Re0<|Sd<|⟨_, by exact R2, false, rfl, rfl, rfl, H⟩
        ·intro m
         obtain ⟨m, H⟩ := If m H
         rcases ic (dcd (p1.kind = 6)) with b | b <;> revert b
         ·intro r
          obtain ⟨r, H⟩ := It r H
          rcases ic (dcd (p2.case_ = (-1))) with b | b <;> revert b
          ·intro w
           obtain ⟨w, H⟩ := It w H
           obtain ⟨aE, aM, H⟩ := bnd H
           rcases ic aE with b | b <;> revert b
           ·intro aa
            have H := ift aa H
            refine fx _ rfl (Ic Mb0 (Ic Mb1 In0))<|Jm 0 Z<|JF 1 0 Z<|Jl 2 (Vi p1.kind) Z (Rb1 Z)<|Jc 3 Z<|Jm 4 Z<|Aw.known (d := 197) rfl (iV m)<|BF 5 0 Z<|Bl 6 (Vi p1.kind) Z (Rb1 Z)<|Bc 7 Z<|Jf 8 Z<|Jm 9 Z<|Aw.known (d := 202) rfl (iv r)<|BF 10 1 Z<|Bl 11 (Vi p2.case_) Z (Rb0 Z)<|Bc 12 Z<|Jt 13 Z<|Jm 14 Z<|Aw.known (d := 207) rfl (iv w)<|BL 15 5 (fe p2) Z (Rb0 Z)<|?_
            refine gG 16 (by kernel_rfl) (kE rfl rfl rfl rfl rfl ?_)
            refine Ek Tryz.call111 Z (iS p2 false true aE aM _ _ ) ?_
            rintro _ _ _ - ⟨rfl, rfl, rfl⟩
            refine ⟨(Ic Mb0 (Ic Mb1 In0)), ?_⟩
            exact Jt 17 Z<|Jm 18 Z<|Aw.known (d := 211) rfl (aa)<|BF 19 4 Z<|Bl 20 (Vi p2.number) Z (Rb0 Z)<|Bm 21 Z<|Bc 22 Z<|Jt 23 Z<|Ja 24 Z<|Ja 25 Z<|Ad<|Re0<|Re0<|Sd<|⟨_, by exact R2, (dcd (p2.number = ab)), rfl, rfl, rfl, H⟩
           ·intro aa
            have H := f5 (btf aa) H
            refine fx _ rfl (Ic Mb0 (Ic Mb1 In0))<|Jm 0 Z<|JF 1 0 Z<|Jl 2 (Vi p1.kind) Z (Rb1 Z)<|Jc 3 Z<|Jm 4 Z<|Aw.known (d := 197) rfl (iV m)<|BF 5 0 Z<|Bl 6 (Vi p1.kind) Z (Rb1 Z)<|Bc 7 Z<|Jf 8 Z<|Jm 9 Z<|Aw.known (d := 202) rfl (iv r)<|BF 10 1 Z<|Bl 11 (Vi p2.case_) Z (Rb0 Z)<|Bc 12 Z<|Jt 13 Z<|Jm 14 Z<|Aw.known (d := 207) rfl (iv w)<|BL 15 5 (fe p2) Z (Rb0 Z)<|?_
            refine gG 16 (by kernel_rfl) (kE rfl rfl rfl rfl rfl ?_)
            refine Ek Tryz.call111 Z (iS p2 false true aE aM _ _ ) ?_
            rintro _ _ _ - ⟨rfl, rfl, rfl⟩
            refine ⟨(Ic Mb0 (Ic Mb1 In0)), ?_⟩
            exact Jt 17 Z<|Jm 18 Z<|Aw.known (d := 211) rfl (aa)<|Jz 19 Z<|Jz 20 Z<|Jz 21 Z<|Jz 22 Z<|Jf 23 Z<|Ja 24 Z<|Ja 25 Z<|Ad<|Re0<|Re0<|Sd<|⟨_, by exact R2, false, rfl, rfl, rfl, H⟩
          ·intro w
           obtain ⟨w, H⟩ := If w H
           refine fx _ rfl (Ic Mb0 (Ic Mb1 In0))<|Jm 0 Z<|JF 1 0 Z<|Jl 2 (Vi p1.kind) Z (Rb1 Z)<|Jc 3 Z<|Jm 4 Z<|Aw.known (d := 197) rfl (iV m)<|BF 5 0 Z<|Bl 6 (Vi p1.kind) Z (Rb1 Z)<|Bc 7 Z<|Jf 8 Z<|Jm 9 Z<|Aw.known (d := 202) rfl (iv r)<|BF 10 1 Z<|Bl 11 (Vi p2.case_) Z (Rb0 Z)<|Bc 12 Z<|Jt 13 Z<|Jm 14 Z<|Aw.known (d := 207) rfl (iV w)<|Jz 15 Z<|Jz 16 Z<|Jf 17 Z<|?_
           exact Jm 18 Z<|Jz 19 Z<|Jz 20 Z<|Jz 21 Z<|Jz 22 Z<|Jf 23 Z<|Ja 24 Z<|Ja 25 Z<|Ad<|Re0<|Re0<|Sd<|⟨_, by exact R2, false, rfl, rfl, rfl, H⟩
         ·intro r
          obtain ⟨r, H⟩ := If r H
          refine fx _ rfl (Ic Mb0 (Ic Mb1 In0))<|Jm 0 Z<|JF 1 0 Z<|Jl 2 (Vi p1.kind) Z (Rb1 Z)<|Jc 3 Z<|Jm 4 Z<|Aw.known (d := 197) rfl (iV m)<|BF 5 0 Z<|Bl 6 (Vi p1.kind) Z (Rb1 Z)<|Bc 7 Z<|Jf 8 Z<|Jm 9 Z<|Aw.known (d := 202) rfl (iV r)<|Jz 10 Z<|Jz 11 Z<|Jz 12 Z<|Jf 13 Z<|Jm 14 Z<|Jz 15 Z<|Jz 16 Z<|Jf 17 Z<|Jm 18 Z<|?_
          exact Jz 19 Z<|Jz 20 Z<|Jz 21 Z<|Jz 22 Z<|Jf 23 Z<|Ja 24 Z<|Ja 25 Z<|Ad<|Re0<|Re0<|Sd<|⟨_, by exact R2, false, rfl, rfl, rfl, H⟩
       rintro _ _ _ - ⟨ag, rfl, rfl, rfl, H⟩
       unfold mQ at H
       refine fz ?_
       obtain ⟨n, o⟩ := ig H
       subst e f
       refine ⟨(by first|exact .inl rfl|exact .inr rfl), [(sv a), (.bool ag)], ⟨(sv a), _, rfl, rfl, ⟨(.bool ag), _, rfl, rfl, rfl⟩⟩, ?_⟩
       exact Sd ⟨a, rfl, rfl, c⟩
      ·intro W
       obtain ⟨W, H⟩ := If W H
       refine fy<|fc<|fa<|Ea Z<|Ea Z<|fb<|fz<|?_
       obtain ⟨n, o⟩ := ig H
       subst e f
       refine ⟨(by first|exact .inl rfl|exact .inr rfl), [(sv fB), (.bool false)], ⟨(sv fB), _, rfl, rfl, ⟨(.bool false), _, rfl, rfl, rfl⟩⟩, ?_⟩
       exact Re0<|Re0<|Sd<|⟨fB, rfl, rfl, (Slr.nil fK _)⟩
theorem ye (p0 : ad0) (g : SV) (p1 : Op) (b : SV) (c : SV) (p2 : Result) (d : ad0) (e : Bool) (H : o6 p0 p1 p2 = some (d, e)) (K : Kp) (G : List Ent) (m : Slr fK K (sv g) p0) (n : Slr fX K (sv b) p1.cases) (o : Slr Ty.i64 K (sv c) p1.draws) :
  Fc Tryz.prog 51 #[(sv g), (.agg (fj p1 b c).toArray), (.agg (fe p2).toArray)] K (G) (fun v j i => ∃ (h : SV), v = (.tuple #[(sv h), (.bool e)]) ∧ G = i ∧ Slr fK j (sv h) d) := by
 refine fN Tryz.func51 rfl Tryz.ntmps51 Tryz.results51 rfl ?_
 unfold o6 at H
 refine fc<|fa<|?_
 refine ff rfl (fU (cs := (fj p1 b c)) rfl rfl rfl (fun t => ?_))
 refine ff rfl (fU (cs := (fe p2)) rfl rfl rfl (fun u => ?_))
 refine Ea Z<|Ea Z<|fb<|fc<|fa<|Em Z<|EL 7 (fj p1 b c) Z (Rb1 Z)<|EL 5 (fe p2) Z (Rb0 Z)<|?_
 obtain ⟨r, x14, q, H⟩ := iy H
 refine ff rfl (Ek Tryz.call85 Z (DW p0 g p1 b c p2 r x14 q _ _ m n o) ?_)
 rintro _ s _ w ⟨f, rfl, rfl, p⟩
 refine Em Z<|Ex Z<|Ex Z<|Ea Z<|Ea Z<|fb<|fc<|fc<|fa<|Em Z<|Eq Z (gg rfl)<|fb<|?_
 refine fp rfl ?_ ?_
 ·intro a
  have a := iC a
  have H := f5 (btf a) H
  refine fc<|fa<|Ea Z<|Ea Z<|fb<|fz<|?_
  obtain ⟨k, l⟩ := ig H
  subst d e
  refine ⟨(by first|exact .inl rfl|exact .inr rfl), [(sv fB), (.bool false)], ⟨(sv fB), _, rfl, rfl, ⟨(.bool false), _, rfl, rfl, rfl⟩⟩, ?_⟩
  exact Re0<|Re0<|Sd<|⟨fB, rfl, rfl, (Slr.nil fK _)⟩
 ·intro a
  have a := iz a
  have H := ift a H
  refine fy<|fc<|fa<|Em Z<|Ea Z<|Ea Z<|fb<|fz<|?_
  obtain ⟨k, l⟩ := ig H
  subst d e
  refine ⟨(by first|exact .inl rfl|exact .inr rfl), [(sv f), (.bool true)], ⟨(sv f), _, rfl, rfl, ⟨(.bool true), _, rfl, rfl, rfl⟩⟩, ?_⟩
  exact Re0<|Re0<|Sd<|⟨f, rfl, rfl, p⟩
end Go.Hx
namespace Go.Hx
open Go Go.Proofs
set_option maxRecDepth 10000
set_option maxHeartbeats 1000000
theorem yf (p0 : ad0) (i : SV) (p1 : Op) (g : SV) (h : SV) (j : ad5) (H : pa p0 p1 = some j) (K : Kp) (G : List Ent) (aa : Slr fK K (sv i) p0) (au : Slr fX K (sv g) p1.cases) (av : Slr Ty.i64 K (sv h) p1.draws) :
  Fc Tryz.prog 84 #[(sv i), (.agg (fj p1 g h).toArray)] K (G) (fun v b c => ∃ (ak : SV), v = (sv ak) ∧ (.tok 38 5 [(sv ak)]) :: G = c ∧ Slr fM b (sv ak) j) := by
 refine fN Tryz.func84 rfl Tryz.ntmps84 Tryz.results84 rfl ?_
 unfold pa at H
 refine fc<|fa<|?_
 refine ff rfl (fU (cs := (fj p1 g h)) rfl rfl rfl (fun e => ?_))
 refine Ea Z<|fb<|fc<|fa<|Ea Z<|Ea Z<|fb<|?_
 refine fA (fun d b c => ∃ (Q : SV) (M : ad5) (O : List (List Value)), [(0, (sv i)), (3, (Vp e)), (5, (sv Q)), (6, (sv fB))] = d ∧ K = b ∧ (.blk e 51 (fj p1 g h)) :: (.row (sv Q) 38 5 O.flatten) :: G = c ∧ o9 p0 p1 M = some j ∧ RowR fM b O M) ?_ ?_
 ·refine fc<|fa<|EF 0 Z<|El (Vi p1.kind) Z (Rb0 Z)<|Ec Z<|fb<|?_
  refine fp rfl ?_ ?_
  ·intro z
   obtain ⟨z, H⟩ := It z H
   refine fa<|Eq Z (fH (cs := (fe (Result.mk 6 (-1) 0 false 0))) rfl rfl rfl rfl rfl rfl)<|Eq Z (fH (cs := (fe (Result.mk 5 (-1) 0 false 0))) rfl rfl rfl rfl rfl rfl)<|?_
   have am : RowR fM K [(fe (Result.mk 6 (-1) 0 false 0)), (fe (Result.mk 5 (-1) 0 false 0))] [(Result.mk 6 (-1) 0 false 0), (Result.mk 5 (-1) 0 false 0)] := RowR.cons rfl (RowR.cons rfl (RowR.nil))
   refine ff rfl (gh (T := fM) (rows := [(fe (Result.mk 6 (-1) 0 false 0)), (fe (Result.mk 5 (-1) 0 false 0))]) (l := [(Result.mk 6 (-1) 0 false 0), (Result.mk 5 (-1) 0 false 0)]) rfl rfl rfl am rfl rfl rfl rfl rfl rfl rfl rfl (fun bq => ?_))
   exact Ea Z<|fb<|Pu1<|Sd<|⟨_, by exact R4, bq, [(Result.mk 6 (-1) 0 false 0), (Result.mk 5 (-1) 0 false 0)], [(fe (Result.mk 6 (-1) 0 false 0)), (fe (Result.mk 5 (-1) 0 false 0))], rfl, rfl, rfl, H, am⟩
  ·intro z
   obtain ⟨z, H⟩ := If z H
   refine fy ?_
   have aP : RowR fM K [] [] := RowR.nil
   exact Shift.nilRow 38 5<|Pu1<|Sd<|⟨_, by exact R4, fB, ([] : ad5), ([] : List (List Value)), rfl, rfl, rfl, H, aP⟩
 rintro _ _ _ - ⟨Q, M, O, rfl, rfl, rfl, H, aO⟩
 unfold o9 at H
 refine fc<|fa<|EL 7 (fj p1 g h) Z (Rb0 Z)<|?_
 obtain ⟨I, bh, H⟩ := bnd H
 refine ff rfl (Ek Tryz.call44 Z (lA p1 g h I bh _ _ au av) ?_)
 rintro _ o _ u ⟨R, rfl, rfl, m⟩
 refine Ea Z<|fb<|?_
 refine fA (fun d b c => ∃ (E : SV) (N : ad5) (P : List (List Value)), [(0, (sv i)), (3, (Vp e)), (5, (sv E)), (6, (sv fB))] = d ∧ (.blk e 51 (fj p1 g h)) :: (.row (sv E) 38 5 P.flatten) :: G = c ∧ sq p0 p1 N = some j ∧ RowR fM b P N) ?_ ?_
 ·refine fc<|fa<|Ea Z<|fb<|fC<|?_
  refine ga (fun aK d b c => ∃ (n : SV) (r : ad5) (s : List (List Value)) (f : Int), [(0, (sv i)), (3, (Vp e)), (5, (sv n)), (6, (sv fB)), (7, (sv R)), (8, (Vi f))] = d ∧ o = b ∧ (.blk e 51 (fj p1 g h)) :: (.row (sv n) 38 5 s.flatten) :: G = c ∧ lp2 (sr p0 I p1) aK r f = some j ∧ RowR fM b s r) BIG ?_ ?_
  ·refine Pu1<|Pu1<|?_
   have bd := aO.mono u
   exact Sd ⟨_, by exact R6, Q, M, O, 0, rfl, rfl, rfl, H, bd⟩
  rintro aK _ _ _ - ⟨n, r, s, f, rfl, rfl, rfl, H, L⟩
  obtain ⟨bS, ae, rfl, ar, H⟩ := jR H
  unfold sr at H
  refine fc<|fc<|fa<|Em Z<|Em Z<|Eq Z (gp (T := fX) m rfl rfl)<|Ec Z<|fb<|?_
  refine fp rfl ?_ ?_
  ·intro A
   obtain ⟨A, H⟩ := It A H
   refine fy<|fc<|fC<|fc<|fa<|Ea Z<|fb<|?_
   refine fA (fun d b c => ∃ (a : Int), [(0, (sv i)), (3, (Vp e)), (5, (sv n)), (6, (sv fB)), (7, (sv R)), (8, (Vi f)), (9, (Vi a))] = d ∧ o = b ∧ (.blk e 51 (fj p1 g h)) :: (.row (sv n) 38 5 s.flatten) :: G = c ∧ o8 p0 r I f p1 ae a = some j) ?_ ?_
   ·refine fc<|fa<|EF 0 Z<|El (Vi p1.kind) Z (Rb0 Z)<|Ec Z<|fb<|?_
    refine fp rfl ?_ ?_
    ·intro B
     obtain ⟨B, H⟩ := It B H
     exact fa<|Em Z<|Ea Z<|fb<|Pu1<|Pu1<|Sd<|⟨_, by exact R7, f, rfl, rfl, rfl, H⟩
    ·intro B
     obtain ⟨B, H⟩ := If B H
     exact fy<|Pu1<|Pu1<|Sd<|⟨_, by exact R7, (-1), rfl, rfl, rfl, H⟩
   rintro _ _ _ - ⟨a, rfl, rfl, rfl, H⟩
   unfold o8 at H
   refine fc<|fc<|fa<|Em Z<|Em Z<|?_
   obtain ⟨bA, aC, H⟩ := bnd H
   obtain ⟨_, rfl, aV⟩ := Slr.at m aC
   refine Eq Z (Qi (T := fX) m aC Z)<|EF 0 Z<|El (.bool bA.send) Z (Rdc.k aV rfl)<|fb<|?_
   refine fp rfl ?_ ?_
   ·intro U
    have H := ift U H
    refine fc<|fa<|Em Z<|Em Z<|Eq Z (fH (cs := (fe (Result.mk 5 a 0 false 0))) rfl rfl rfl rfl rfl rfl)<|Em Z<|Eq Z (fH (cs := (fe (Result.mk 1 a 0 false 0))) rfl rfl rfl rfl rfl rfl)<|?_
    have an : RowR fM o [(fe (Result.mk 5 a 0 false 0)), (fe (Result.mk 1 a 0 false 0))] [(Result.mk 5 a 0 false 0), (Result.mk 1 a 0 false 0)] := RowR.cons rfl (RowR.cons rfl (RowR.nil))
    refine ff rfl (gh (T := fM) (rows := [(fe (Result.mk 5 a 0 false 0)), (fe (Result.mk 1 a 0 false 0))]) (l := [(Result.mk 5 a 0 false 0), (Result.mk 1 a 0 false 0)]) rfl rfl rfl an rfl rfl rfl rfl rfl rfl rfl rfl (fun bZ => ?_))
    obtain ⟨bB, bi, H⟩ := bnd H
    refine ff rfl (gZ (T := fM) (bytes := 40) rfl rfl rfl Mb2 L (SrcT.row Mb0 an rfl) bi rfl rfl rfl rfl rfl rfl rfl rfl (fun br bm aR => ⟨_, (.there (.there .here)), ?_⟩))
    refine Ow.shift (Re0 (Sd ?_))
    exact Ea Z<|fb<|ge<|fa<|Em Z<|Er (wI (f + 1)) Z<|Ea Z<|fb<|Pu1<|Pu1<|Sd<|⟨_, by exact R6, _, Nat.lt_succ_self _, br, bB, bm, (wI (f + 1)), rfl, rfl, rfl, (ar ▸ H), aR⟩
   ·intro U
    have H := f5 (btf U) H
    refine fy ?_
    refine fA (fun d b c => ∃ (aj : SV) (ag : ad5) (ah : List (List Value)), [(0, (sv i)), (3, (Vp e)), (5, (sv aj)), (6, (sv fB)), (7, (sv R)), (8, (Vi f)), (9, (Vi a))] = d ∧ o = b ∧ (.blk e 51 (fj p1 g h)) :: (.row (sv aj) 38 5 ah.flatten) :: G = c ∧ o7 p0 I f a p1 ae ag = some j ∧ RowR fM b ah ag) ?_ ?_
    ·refine fA (fun d b c => ∃ (ai : Bool), [(0, (sv i)), (3, (Vp e)), (5, (sv n)), (6, (sv fB)), (7, (sv R)), (8, (Vi f)), (9, (Vi a)), (62, (.bool ai))] = d ∧ o = b ∧ (.blk e 51 (fj p1 g h)) :: (.row (sv n) 38 5 s.flatten) :: G = c ∧ tl p0 r I f a p1 ae ai = some j) ?_ ?_
     ·refine fa<|Em Z<|Em Z<|Em Z<|?_
      obtain ⟨aM, aD, H⟩ := bnd H
      obtain ⟨_, rfl, aW⟩ := Slr.at m aD
      refine Eq Z (Qi (T := fX) m aD Z)<|EF 1 Z<|El (Vi aM.channel) Z (Rdc.k aW rfl)<|?_
      obtain ⟨bC, bj, H⟩ := bnd H
      have ad := aa.mono u
      refine ff rfl (Ek Tryz.call107 Z (l6 p0 i aM.channel bC bj _ _ ad) ?_)
      rintro _ _ _ - ⟨rfl, rfl, rfl⟩
      refine Em Z ?_
      refine Ee Z ?_ ?_
      ·intro V
       have H := ift V H
       refine Vm Z<|Vm Z<|Vm Z<|?_
       obtain ⟨bD, aE, H⟩ := bnd H
       obtain ⟨_, rfl, aX⟩ := Slr.at m aE
       refine Vq Z (Qi (T := fX) m aE Z)<|VF 1 Z<|Vl (Vi bD.channel) Z (Rdc.k aX rfl)<|?_
       obtain ⟨bE, aF, H⟩ := bnd H
       obtain ⟨bV, a4, aY⟩ := Slr.at ad aF
       obtain ⟨bs, rfl, be⟩ := a4
       exact Vq Z (Qi (T := fK) ad aF Z)<|VF 1 Z<|Vl (sv bs) Z (Rdc.k aY rfl)<|Vq Z (gp (T := Ty.u64) be rfl rfl)<|Vc Z<|Et Z<|fb<|Pu1<|Pu1<|Sd<|⟨_, by exact R8, (dcd ((bE.buffer.length : Int) > 0)), rfl, rfl, rfl, H⟩
      ·intro V
       have H := f5 (btf V) H
       exact Ez Z<|Ez Z<|Ez Z<|Ez Z<|Ez Z<|Ez Z<|Ez Z<|Ez Z<|Ez Z<|Ez Z<|Ez Z<|Ef Z<|fb<|Pu1<|Pu1<|Sd<|⟨_, by exact R8, false, rfl, rfl, rfl, H⟩
     rintro _ _ _ - ⟨ai, rfl, rfl, rfl, H⟩
     unfold tl at H
     refine fp rfl ?_ ?_
     ·intro W
      have H := ift W H
      refine fa<|Em Z<|Em Z<|Em Z<|Em Z<|Em Z<|?_
      obtain ⟨bF, aG, H⟩ := bnd H
      obtain ⟨_, rfl, aZ⟩ := Slr.at m aG
      refine Eq Z (Qi (T := fX) m aG Z)<|EF 1 Z<|El (Vi bF.channel) Z (Rdc.k aZ rfl)<|?_
      obtain ⟨b2, aH, H⟩ := bnd H
      have ay := aa.mono u
      obtain ⟨bW, a5, a0⟩ := Slr.at ay aH
      obtain ⟨bt, rfl, az⟩ := a5
      refine Eq Z (Qi (T := fK) ay aH Z)<|EF 1 Z<|El (sv bt) Z (Rdc.k a0 rfl)<|?_
      obtain ⟨x, aI, H⟩ := bnd H
      obtain ⟨_, rfl, a1⟩ := Slr.at az aI
      refine Eq Z (Qi (T := Ty.u64) az aI Z)<|El (.int .u64 x) Z (Rdc.k a1 rfl)<|Eq Z (fH (cs := (fe (Result.mk 2 a x true 0))) rfl rfl rfl rfl rfl rfl)<|?_
      have ao : RowR fM o [(fe (Result.mk 2 a x true 0))] [(Result.mk 2 a x true 0)] := RowR.cons rfl (RowR.nil)
      refine ff rfl (gh (T := fM) (rows := [(fe (Result.mk 2 a x true 0))]) (l := [(Result.mk 2 a x true 0)]) rfl rfl rfl ao rfl rfl rfl rfl rfl rfl rfl rfl (fun b0 => ?_))
      obtain ⟨bG, bk, H⟩ := bnd H
      refine ff rfl (gZ (T := fM) (bytes := 40) rfl rfl rfl Mb2 L (SrcT.row Mb0 ao rfl) bk rfl rfl rfl rfl rfl rfl rfl rfl (fun bu bn aT => ⟨_, (.there (.there .here)), ?_⟩))
      refine Ow.shift (Re0 (Sd ?_))
      exact Ea Z<|fb<|Pu1<|Pu1<|Sd<|⟨_, by exact R7, bu, bG, bn, rfl, rfl, rfl, H, aT⟩
     ·intro W
      have H := f5 (btf W) H
      exact fy<|Pu1<|Pu1<|Sd<|⟨_, by exact R7, n, r, s, rfl, rfl, rfl, H, L⟩
    rintro _ _ _ - ⟨aj, ag, ah, rfl, rfl, rfl, H, aS⟩
    unfold o7 at H
    refine fa<|Em Z<|Em Z<|Eq Z (fH (cs := (fe (Result.mk 2 a 0 false 0))) rfl rfl rfl rfl rfl rfl)<|?_
    have ap : RowR fM o [(fe (Result.mk 2 a 0 false 0))] [(Result.mk 2 a 0 false 0)] := RowR.cons rfl (RowR.nil)
    refine ff rfl (gh (T := fM) (rows := [(fe (Result.mk 2 a 0 false 0))]) (l := [(Result.mk 2 a 0 false 0)]) rfl rfl rfl ap rfl rfl rfl rfl rfl rfl rfl rfl (fun b1 => ?_))
    obtain ⟨bH, bl, H⟩ := bnd H
    refine ff rfl (gZ (T := fM) (bytes := 40) rfl rfl rfl Mb2 aS (SrcT.row Mb0 ap rfl) bl rfl rfl rfl rfl rfl rfl rfl rfl (fun bv bo aU => ⟨_, (.there (.there .here)), ?_⟩))
    refine Ow.shift (Re0 (Sd ?_))
    exact Ea Z<|fb<|fa<|Em Z<|Er (wI (f + 1)) Z<|Ea Z<|fb<|Pu1<|Pu1<|Sd<|⟨_, by exact R6, _, Nat.lt_succ_self _, bv, bH, bo, (wI (f + 1)), rfl, rfl, rfl, (ar ▸ H), aU⟩
  ·intro A
   obtain ⟨A, H⟩ := If A H
   exact ge<|Pu1<|Pu1<|Sd<|⟨_, by exact R4, n, r, s, rfl, rfl, H, L⟩
 rintro _ bL _ Y ⟨E, N, P, rfl, rfl, H, aQ⟩
 unfold sq at H
 refine fA (fun d b c => ∃ (t : SV) (af : ad5), [(6, (sv t))] = d ∧ (.tok 38 5 [(sv t)]) :: G = c ∧ wE af = some j ∧ Slr fM b (sv t) af) ?_ ?_
 ·refine fc<|fa<|Ea Z<|fb<|fC<|?_
  refine ga (fun aJ d b c => ∃ (w : SV) (D : ad5) (p : Int), [(0, (sv i)), (3, (Vp e)), (5, (sv E)), (6, (sv w)), (10, (Vi p))] = d ∧ (.blk e 51 (fj p1 g h)) :: (.tok 38 5 [(sv w)]) :: (.row (sv E) 38 5 P.flatten) :: G = c ∧ lp2 (so p0 N p1) aJ D p = some j ∧ Slr fM b (sv w) D) BIG ?_ ?_
  ·exact Shift.nilTok1 38 5<|Pu2<|Pu1<|Pu2<|Sd<|⟨_, by exact R5, fB, ([] : ad5), 0, rfl, rfl, H, (Slr.nil fM _)⟩
  rintro aJ _ bI _ J ⟨w, D, p, rfl, rfl, H, ab⟩
  obtain ⟨bR, bQ, rfl, aq, H⟩ := jR H
  unfold so at H
  refine fc<|fc<|fa<|Em Z<|Em Z<|?_
  have C := aQ.mono J
  refine Eq Z (mZ (T := fM) Mb2 C rfl rfl rfl)<|Ec Z<|fb<|?_
  refine fp rfl ?_ ?_
  ·intro y
   obtain ⟨y, H⟩ := It y H
   refine fy<|fc<|fC<|fc<|?_
   obtain ⟨aL, aA, H⟩ := bnd H
   obtain ⟨bw, bx, bf, H⟩ := iy H
   refine fx _ rfl (Ic Mb0 (Ic Mb1 (Ic Mb2 In0)))<|Jm 0 Z<|JL 1 7 (fj p1 g h) Z (Rb0 Z)<|Jm 2 Z<|Jm 3 Z<|?_
   obtain ⟨bT, aw, a2⟩ := RowR.at C aA
   obtain rfl := a2
   refine Jq 4 Z (gP (T := fM) Mb2 C aw (fO aA).1 rfl rfl rfl rfl rfl)<|JL 5 5 (fe aL) Z (ie (T := fM) Mb2 C aw rfl rfl)<|?_
   refine Ao 6 Z ?_
   have a7 := ((aa.mono u).mono Y).mono J
   have a8 := ((au.mono u).mono Y).mono J
   have a9 := ((av.mono u).mono Y).mono J
   refine Ek Tryz.call51 Z (ye p0 i p1 g h aL bw bx bf _ _ a7 a8 a9) ?_
   rintro _ aN _ X ⟨bX, rfl, rfl, bP⟩
   refine ⟨(Ic Mb0 (Ic Mb1 (Ic Mb2 In0))), ?_⟩
   refine Jm 7 Z<|Jx 8 Z<|Jx 9 Z<|Ja 10 Z<|Ja 11 Z<|Ad<|fc<|fa<|Em Z<|fb<|?_
   refine fp rfl ?_ ?_
   ·intro S
    have H := ift S H
    refine fa<|Em Z<|Em Z<|Em Z<|?_
    obtain ⟨F, aB, H⟩ := bnd H
    have ac := C.mono X
    obtain ⟨bU, ax, a3⟩ := RowR.at ac aB
    obtain rfl := a3
    refine Eq Z (gP (T := fM) Mb2 ac ax (fO aB).1 rfl rfl rfl rfl rfl)<|EL 5 (fe F) Z (ie (T := fM) Mb2 ac ax rfl rfl)<|?_
    have al : RowR fM aN [(fe F)] [F] := RowR.cons rfl (RowR.nil)
    refine ff rfl (gh (T := fM) (rows := [(fe F)]) (l := [F]) rfl rfl rfl al rfl rfl rfl rfl rfl rfl rfl rfl (fun bY => ?_))
    obtain ⟨bz, bg, H⟩ := bnd H
    have bb := ab.mono X
    refine ff rfl (f6 (T := fM) (bytes := 40) (q := 0) rfl rfl rfl bb Mb2 rfl (SrcT.row Mb0 al rfl) bg rfl rfl rfl rfl rfl rfl rfl rfl (fun bp bJ bN ba => ⟨_, (.there (.there .here)), ?_⟩))
    refine Ow.shift (Re0 (Sd ?_))
    exact Ea Z<|fb<|fa<|Em Z<|Er (wI (p + 1)) Z<|Ea Z<|fb<|Pu2<|Pu2<|Pu2<|Sd<|⟨_, by exact R5, _, Nat.lt_succ_self _, bp, bz, (wI (p + 1)), rfl, rfl, (aq ▸ H), ba⟩
   ·intro S
    have H := f5 (btf S) H
    refine fy<|fa<|Em Z<|Er (wI (p + 1)) Z<|Ea Z<|fb<|Pu2<|Pu2<|Pu2<|?_
    have bc := ab.mono X
    exact Sd ⟨_, by exact R5, _, Nat.lt_succ_self _, w, D, (wI (p + 1)), rfl, rfl, (aq ▸ H), bc⟩
  ·intro y
   obtain ⟨y, H⟩ := If y H
   exact ge<|Pu1<|Re1<|Re1<|Sd<|⟨_, by exact R1, w, D, rfl, rfl, H, ab⟩
 rintro _ bK _ bO ⟨t, af, rfl, rfl, H, a6⟩
 unfold wE at H
 refine fc<|fa<|Em Z<|Ea Z<|fb<|fz<|?_
 obtain bM := gu H
 subst j
 refine ⟨(by first|exact .inl rfl|exact .inr rfl), [(sv t)], ⟨(sv t), _, rfl, rfl, rfl⟩, ?_⟩
 exact Sd ⟨t, rfl, rfl, a6⟩
theorem yg (p0 : ad0) (w : SV) (p1 : Op) (o : SV) (p : SV) (p2 : Result) (p3 : Op) (q : SV) (r : SV) (p4 : Result) (b : Bool) (H : pe p0 p1 p2 p3 p4 = some b) (K : Kp) (G : List Ent) (D : Slr fK K (sv w) p0) (S : Slr fX K (sv o) p1.cases) (U : Slr Ty.i64 K (sv p) p1.draws) (V : Slr fX K (sv q) p3.cases) (W : Slr Ty.i64 K (sv r) p3.draws) :
  Fc Tryz.prog 104 #[(sv w), (.agg (fj p1 o p).toArray), (.agg (fe p2).toArray), (.agg (fj p3 q r).toArray), (.agg (fe p4).toArray)] K (G) (fun v d c => v = (.bool b) ∧ K = d ∧ G = c) := by
 refine fN Tryz.func104 rfl Tryz.ntmps104 Tryz.results104 rfl ?_
 unfold pe at H
 refine fc<|fa<|?_
 refine ff rfl (fU (cs := (fj p1 o p)) rfl rfl rfl (fun L => ?_))
 refine ff rfl (fU (cs := (fe p2)) rfl rfl rfl (fun M => ?_))
 refine ff rfl (fU (cs := (fj p3 q r)) rfl rfl rfl (fun N => ?_))
 refine ff rfl (fU (cs := (fe p4)) rfl rfl rfl (fun z => ?_))
 refine Ea Z<|fb<|fc<|?_
 refine fA (fun s d c => ∃ (F : Bool), [(0, (sv w)), (6, (Vp L)), (7, (Vp M)), (8, (Vp N)), (9, (Vp z)), (38, (.bool F))] = s ∧ K = d ∧ (.blk z 38 (fe p4)) :: (.blk N 51 (fj p3 q r)) :: (.blk M 38 (fe p2)) :: (.blk L 51 (fj p1 o p)) :: G = c ∧ nD p0 p4 p3 p2 p1 F = some b) ?_ ?_
 ·refine fa<|EF 0 Z<|El (Vi p2.kind) Z (Rb2 Z)<|Ec Z<|Em Z<|?_
  refine Ee Z ?_ ?_
  ·intro j
   have j := lO (iC (j))
   have H := f5 j H
   refine Ez Z<|Ez Z<|Ez Z<|Et Z<|Em Z<|Ez Z<|Ez Z<|Ez Z<|Et Z<|Em Z<|Ez Z<|Ez Z<|Ez Z<|Et Z<|Em Z<|Ez Z<|Ez Z<|Ez Z<|Et Z<|fb<|Pu3<|Pu3<|?_
   exact Pu3<|Pu3<|Sd<|⟨_, by exact R6, true, rfl, rfl, rfl, H⟩
  ·intro j
   have j := lP (iz (j))
   have H := ift j H
   refine VF 0 Z<|Vl (Vi p4.kind) Z (Rb0 Z)<|Vc Z<|Ef Z<|Em Z<|?_
   refine Ee Z ?_ ?_
   ·intro l
    have l := lO (iC (l))
    have H := f5 l H
    exact Ez Z<|Ez Z<|Ez Z<|Et Z<|Em Z<|Ez Z<|Ez Z<|Ez Z<|Et Z<|Em Z<|Ez Z<|Ez Z<|Ez Z<|Et Z<|fb<|Pu3<|Pu3<|Pu3<|Pu3<|Sd<|⟨_, by exact R6, true, rfl, rfl, rfl, H⟩
   ·intro l
    have l := lP (iz (l))
    have H := ift l H
    refine VL 5 (fe p2) Z (Rb2 Z) ?_
    obtain ⟨ag, ac, H⟩ := bnd H
    refine ij rfl rfl rfl rfl (Ek Tryz.call111 Z (iS p2 false false ag ac _ _ ) ?_)
    rintro _ _ _ - ⟨rfl, rfl, rfl⟩
    refine Vq Z (gg rfl)<|Ef Z<|Em Z<|?_
    refine Ee Z ?_ ?_
    ·intro m
     have m := iC m
     have H := f5 (btf m) H
     exact Ez Z<|Ez Z<|Ez Z<|Et Z<|Em Z<|Ez Z<|Ez Z<|Ez Z<|Et Z<|fb<|Pu3<|Pu3<|Pu3<|Pu3<|Sd<|⟨_, by exact R6, true, rfl, rfl, rfl, H⟩
    ·intro m
     have m := iz m
     have H := ift m H
     refine VL 5 (fe p4) Z (Rb0 Z) ?_
     obtain ⟨ah, ad, H⟩ := bnd H
     refine ij rfl rfl rfl rfl (Ek Tryz.call111 Z (iS p4 true false ah ad _ _ ) ?_)
     rintro _ _ _ - ⟨rfl, rfl, rfl⟩
     refine Vq Z (gg rfl)<|Ef Z<|Em Z<|?_
     refine Ee Z ?_ ?_
     ·intro n
      have n := iC n
      have H := f5 (btf n) H
      exact Ez Z<|Ez Z<|Ez Z<|Et Z<|fb<|Pu3<|Pu3<|Pu3<|Pu3<|Sd<|⟨_, by exact R6, true, rfl, rfl, rfl, H⟩
     ·intro n
      have n := iz n
      have H := ift n H
      exact VF 3 Z<|Vl (.bool p4.ok) Z (Rb0 Z)<|Vq Z (gg rfl)<|Ef Z<|fb<|Pu3<|Pu3<|Pu3<|Pu3<|Sd<|⟨_, by exact R6, (!(p4.ok)), rfl, rfl, rfl, H⟩
 rintro _ _ _ - ⟨F, rfl, rfl, rfl, H⟩
 unfold nD at H
 refine fp rfl ?_ ?_
 ·intro C
  have H := ift C H
  refine fc<|fa<|Ea Z<|fb<|fz<|?_
  obtain O := gu H
  subst b
  refine ⟨(by first|exact .inl rfl|exact .inr rfl), [(.bool false)], ⟨(.bool false), _, rfl, rfl, rfl⟩, ?_⟩
  exact Re0<|Re0<|Re0<|Re0<|Sd<|⟨rfl, rfl, rfl⟩
 ·intro C
  have H := f5 (btf C) H
  refine fy<|fc<|fa<|EL 7 (fj p1 o p) Z (Rb3 Z)<|EL 5 (fe p2) Z (Rb2 Z)<|?_
  obtain ⟨a, ae, Y, H⟩ := iy H
  refine ff rfl (Ek Tryz.call109 Z (qE p1 o p p2 a ae Y _ _ S U) ?_)
  rintro _ _ _ - ⟨rfl, rfl, rfl⟩
  refine Em Z<|Ex Z<|Ex Z<|?_
  refine ff rfl (fE (cs := (fk (Case.mk false 0 0))) rfl rfl rfl rfl (fun J => ?_))
  refine ff rfl (fm (vs := (fk a)) (all' := (fk a)) rfl rfl rfl rfl rfl .here rfl rfl rfl ?_)
  refine Ea Z<|fb<|fc<|fa<|EL 7 (fj p3 q r) Z (Rb2 Z)<|EL 5 (fe p4) Z (Rb1 Z)<|?_
  obtain ⟨x, af, aa, H⟩ := iy H
  refine ff rfl (Ek Tryz.call109 Z (qE p3 q r p4 x af aa _ _ V W) ?_)
  rintro _ _ _ - ⟨rfl, rfl, rfl⟩
  refine Em Z<|Ex Z<|Ex Z<|?_
  refine ff rfl (fE (cs := (fk (Case.mk false 0 0))) rfl rfl rfl rfl (fun ai => ?_))
  refine ff rfl (fm (vs := (fk x)) (all' := (fk x)) rfl rfl rfl rfl rfl .here rfl rfl rfl ?_)
  refine Ea Z<|fb<|fc<|?_
  refine fA (fun s d c => ∃ (E : Bool), [(0, (sv w)), (9, (Vp z)), (11, (Vp J)), (79, (.bool E))] = s ∧ K = d ∧ (.blk J 108 (fk a)) :: (.blk z 38 (fe p4)) :: G = c ∧ nC p0 a p4 E = some b) ?_ ?_
  ·refine fa<|Em Z<|Eq Z (gg rfl)<|Em Z<|?_
   refine Ee Z ?_ ?_
   ·intro e
    have e := iC e
    have H := f5 (btf e) H
    refine Ez Z<|Ez Z<|Et Z<|Em Z<|Ez Z<|Ez Z<|Ez Z<|Et Z<|Em Z<|Ez Z<|Ez Z<|Et Z<|Em Z<|Ez Z<|Ez Z<|Ez Z<|Ez Z<|Ez Z<|Et Z<|Em Z<|Ez Z<|Ez Z<|?_
    exact Ez Z<|Ez Z<|Ez Z<|Et Z<|fb<|Pu2<|Pu2<|Re2<|Re2<|Re2<|Re2<|Sd<|⟨_, by exact R4, true, rfl, rfl, rfl, H⟩
   ·intro e
    have e := iz e
    have H := ift e H
    refine Vm Z<|Vq Z (gg rfl)<|Ef Z<|Em Z<|?_
    refine Ee Z ?_ ?_
    ·intro f
     have f := iC f
     have H := f5 (btf f) H
     refine Ez Z<|Ez Z<|Ez Z<|Et Z<|Em Z<|Ez Z<|Ez Z<|Et Z<|Em Z<|Ez Z<|Ez Z<|Ez Z<|Ez Z<|Ez Z<|Et Z<|Em Z<|Ez Z<|Ez Z<|Ez Z<|Ez Z<|Ez Z<|Et Z<|?_
     exact fb<|Pu2<|Pu2<|Re2<|Re2<|Re2<|Re2<|Sd<|⟨_, by exact R4, true, rfl, rfl, rfl, H⟩
    ·intro f
     have f := iz f
     have H := ift f H
     refine VF 0 Z<|Vl (.bool a.send) Z (Rb1 Z)<|Vq Z (gg rfl)<|Ef Z<|Em Z<|?_
     refine Ee Z ?_ ?_
     ·intro g
      have g := iC g
      have H := f5 (btf g) H
      refine Ez Z<|Ez Z<|Et Z<|Em Z<|Ez Z<|Ez Z<|Ez Z<|Ez Z<|Ez Z<|Et Z<|Em Z<|Ez Z<|Ez Z<|Ez Z<|Ez Z<|Ez Z<|Et Z<|fb<|Pu2<|Pu2<|Re2<|Re2<|?_
      exact Re2<|Re2<|Sd<|⟨_, by exact R4, true, rfl, rfl, rfl, H⟩
     ·intro g
      have g := iz g
      have H := ift g H
      refine VF 0 Z<|Vl (.bool x.send) Z (Rb0 Z)<|Ef Z<|Em Z<|?_
      refine Ee Z ?_ ?_
      ·intro A
       have H := ift A H
       exact Ez Z<|Ez Z<|Ez Z<|Ez Z<|Ez Z<|Et Z<|Em Z<|Ez Z<|Ez Z<|Ez Z<|Ez Z<|Ez Z<|Et Z<|fb<|Pu2<|Pu2<|Re2<|Re2<|Re2<|Re2<|Sd<|⟨_, by exact R4, true, rfl, rfl, rfl, H⟩
      ·intro A
       have H := f5 (btf A) H
       refine VF 1 Z<|Vl (Vi a.channel) Z (Rb1 Z)<|VF 1 Z<|Vl (Vi x.channel) Z (Rb0 Z)<|Vc Z<|Ef Z<|Em Z<|?_
       refine Ee Z ?_ ?_
       ·intro h
        have h := lO (iC (h))
        have H := f5 h H
        exact Ez Z<|Ez Z<|Ez Z<|Ez Z<|Ez Z<|Et Z<|fb<|Pu2<|Pu2<|Re2<|Re2<|Re2<|Re2<|Sd<|⟨_, by exact R4, true, rfl, rfl, rfl, H⟩
       ·intro h
        have h := lP (iz (h))
        have H := ift h H
        refine Vm Z<|VF 1 Z<|Vl (Vi a.channel) Z (Rb1 Z)<|?_
        obtain ⟨Q, ab, H⟩ := bnd H
        refine ij rfl rfl rfl rfl (Ek Tryz.call107 Z (l6 p0 w a.channel Q ab _ _ D) ?_)
        rintro _ _ _ - ⟨rfl, rfl, rfl⟩
        exact Vq Z (gg rfl)<|Ef Z<|fb<|Pu2<|Pu2<|Re2<|Re2<|Re2<|Re2<|Sd<|⟨_, by exact R4, (!(Q)), rfl, rfl, rfl, H⟩
  rintro _ _ _ - ⟨E, rfl, rfl, rfl, H⟩
  unfold nC at H
  refine fp rfl ?_ ?_
  ·intro B
   have H := ift B H
   refine fc<|fa<|Ea Z<|fb<|fz<|?_
   obtain O := gu H
   subst b
   refine ⟨(by first|exact .inl rfl|exact .inr rfl), [(.bool false)], ⟨(.bool false), _, rfl, rfl, rfl⟩, ?_⟩
   exact Re0<|Re0<|Sd<|⟨rfl, rfl, rfl⟩
  ·intro B
   have H := f5 (btf B) H
   refine fy<|fc<|fa<|Em Z<|EF 1 Z<|El (Vi a.channel) Z (Rb0 Z)<|?_
   obtain ⟨y, P, H⟩ := bnd H
   obtain ⟨al, X, R⟩ := Slr.at D P
   obtain ⟨I, rfl, ak⟩ := X
   refine Eq Z (Qi (T := fK) D P Z)<|EL 3 (ft y I) Z (Rdc.k R rfl)<|?_
   refine ff rfl (fE (cs := (ft (fG.mk 0 [] false) fB)) rfl rfl rfl rfl (fun aj => ?_))
   refine ff rfl (fm (vs := (ft y I)) (all' := (ft y I)) rfl rfl rfl rfl rfl .here rfl rfl rfl ?_)
   refine fb ?_
   refine fA (fun s d c => ∃ (u : Bool), [(10, (.bool u))] = s ∧ K = d ∧ G = c ∧ pd u = some b) ?_ ?_
   ·refine fa<|EF 0 Z<|El (Vi y.capacity) Z (Rb0 Z)<|Ec Z<|Em Z<|?_
    refine Ee Z ?_ ?_
    ·intro t
     obtain ⟨t, H⟩ := It t H
     refine VF 2 Z<|Vl (.bool y.closed) Z (Rb0 Z)<|Vq Z (gg rfl)<|Et Z<|Em Z<|?_
     refine Ee Z ?_ ?_
     ·intro i
      have i := iC i
      have H := f5 (btf i) H
      exact VF 2 Z<|Vl (.int .u64 p4.value) Z (Rb2 Z)<|VF 2 Z<|Vl (.int .u64 a.value) Z (Rb1 Z)<|Vc Z<|Et Z<|Ea Z<|fb<|Re0<|Re0<|Re0<|Sd<|⟨_, by exact R1, (dcd (p4.value = a.value)), rfl, rfl, rfl, H⟩
     ·intro i
      have i := iz i
      have H := ift i H
      exact Ez Z<|Ez Z<|Ez Z<|Ez Z<|Ez Z<|Ef Z<|Ea Z<|fb<|Re0<|Re0<|Re0<|Sd<|⟨_, by exact R1, false, rfl, rfl, rfl, H⟩
    ·intro t
     obtain ⟨t, H⟩ := If t H
     exact Ez Z<|Ez Z<|Ez Z<|Ef Z<|Em Z<|Ez Z<|Ez Z<|Ez Z<|Ez Z<|Ez Z<|Ef Z<|Ea Z<|fb<|Re0<|Re0<|Re0<|Sd<|⟨_, by exact R1, false, rfl, rfl, rfl, H⟩
   rintro _ _ _ - ⟨u, rfl, rfl, rfl, H⟩
   unfold pd at H
   refine fz ?_
   obtain O := gu H
   subst b
   refine ⟨(by first|exact .inl rfl|exact .inr rfl), [(.bool u)], ⟨(.bool u), _, rfl, rfl, rfl⟩, ?_⟩
   exact Sd ⟨rfl, rfl, rfl⟩
theorem Fo (p0 : ad0) (e : SV) (p1 : Op) (a : SV) (b : SV) (p2 : Result) (p3 : Op) (c : SV) (d : SV) (p4 : Result) (f : Bool) (H : tm p0 p1 p2 p3 p4 = some f) (K : Kp) (G : List Ent) (i : Slr fK K (sv e) p0) (j : Slr fX K (sv a) p1.cases) (k : Slr Ty.i64 K (sv b) p1.draws) (l : Slr fX K (sv c) p3.cases) (m : Slr Ty.i64 K (sv d) p3.draws) :
  Fc Tryz.prog 64 #[(sv e), (.agg (fj p1 a b).toArray), (.agg (fe p2).toArray), (.agg (fj p3 c d).toArray), (.agg (fe p4).toArray)] K (G) (fun v o n => v = (.bool f) ∧ K = o ∧ G = n) := by
 refine fN Tryz.func64 rfl Tryz.ntmps64 Tryz.results64 rfl ?_
 unfold tm at H
 refine fc<|fa<|?_
 refine ff rfl (fU (cs := (fj p1 a b)) rfl rfl rfl (fun s => ?_))
 refine ff rfl (fU (cs := (fe p2)) rfl rfl rfl (fun t => ?_))
 refine ff rfl (fU (cs := (fj p3 c d)) rfl rfl rfl (fun u => ?_))
 refine ff rfl (fU (cs := (fe p4)) rfl rfl rfl (fun w => ?_))
 refine Ea Z<|fb<|fc<|fa<|Em Z<|EL 7 (fj p1 a b) Z (Rb3 Z)<|EL 5 (fe p2) Z (Rb2 Z)<|EL 7 (fj p3 c d) Z (Rb1 Z)<|EL 5 (fe p4) Z (Rb0 Z)<|?_
 obtain ⟨x19, q, H⟩ := bnd H
 refine ff rfl (Ek Tryz.call104 Z (yg p0 e p1 a b p2 p3 c d p4 x19 q _ _ i j k l m) ?_)
 rintro _ _ _ - ⟨rfl, rfl, rfl⟩
 refine Em Z ?_
 refine Ee Z ?_ ?_
 ·intro g
  have H := ift g H
  refine Ez Z<|Ez Z<|Ez Z<|Ez Z<|Ez Z<|Ez Z<|Et Z<|Ea Z<|fb<|fz<|?_
  obtain p := gu H
  subst f
  refine ⟨(by first|exact .inl rfl|exact .inr rfl), [(.bool true)], ⟨(.bool true), _, rfl, rfl, rfl⟩, ?_⟩
  exact Re0<|Re0<|Re0<|Re0<|Sd<|⟨rfl, rfl, rfl⟩
 ·intro g
  have H := f5 (btf g) H
  refine Vm Z<|VL 7 (fj p3 c d) Z (Rb1 Z)<|VL 5 (fe p4) Z (Rb0 Z)<|VL 7 (fj p1 a b) Z (Rb3 Z)<|VL 5 (fe p2) Z (Rb2 Z)<|?_
  obtain ⟨h, r, H⟩ := bnd H
  refine ij rfl rfl rfl rfl (Ek Tryz.call104 Z (yg p0 e p3 c d p4 p1 a b p2 h r _ _ i l m j k) ?_)
  rintro _ _ _ - ⟨rfl, rfl, rfl⟩
  refine Ef Z<|Ea Z<|fb<|fz<|?_
  obtain p := gu H
  subst f
  refine ⟨(by first|exact .inl rfl|exact .inr rfl), [(.bool h)], ⟨(.bool h), _, rfl, rfl, rfl⟩, ?_⟩
  exact Re0<|Re0<|Re0<|Re0<|Sd<|⟨rfl, rfl, rfl⟩
theorem Am (p0 : ad0) (z : SV) (p1 : Op) (m : SV) (n : SV) (p2 : Op) (o : SV) (p : SV) (y : ae7) (H : pZ p0 p1 p2 = some y) (K : Kp) (G : List Ent) (aK : Slr fK K (sv z) p0) (ao : Slr fX K (sv m) p1.cases) (ap : Slr Ty.i64 K (sv n) p1.draws) (aL : Slr fX K (sv o) p2.cases) (aM : Slr Ty.i64 K (sv p) p2.draws) :
  Fc Tryz.prog 86 #[(sv z), (.agg (fj p1 m n).toArray), (.agg (fj p2 o p).toArray)] K (G) (fun v e d => ∃ (al : SV), v = (sv al) ∧ (.tok 131 10 [(sv al)]) :: G = d ∧ Slr gz e (sv al) y) := by
 refine fN Tryz.func86 rfl Tryz.ntmps86 Tryz.results86 rfl ?_
 unfold pZ at H
 refine fc<|fa<|?_
 refine ff rfl (fU (cs := (fj p1 m n)) rfl rfl rfl (fun h => ?_))
 refine ff rfl (fU (cs := (fj p2 o p)) rfl rfl rfl (fun i => ?_))
 refine Ea Z<|fb<|fc<|fa<|Ea Z<|fb<|fc<|?_
 obtain ⟨D, aZ, H⟩ := bnd H
 obtain ⟨E, a0, H⟩ := bnd H
 refine fx _ rfl (Ic Mb0 (Ic Mb1 In0))<|JL 0 7 (fj p1 m n) Z (Rb1 Z)<|JL 2 7 (fj p2 o p) Z (Rb0 Z)<|?_
 refine Ao 1 Z ?_
 refine Ek Tryz.call44 Z (lA p1 m n D aZ _ _ ao ap) ?_
 rintro _ a9 _ Y ⟨J, rfl, rfl, aU⟩
 refine ⟨(Ic Mb0 (Ic Mb1 In0)), ?_⟩
 refine Ao 3 Z ?_
 have av := aL.mono Y
 have aw := aM.mono Y
 refine Ek Tryz.call44 Z (lA p2 o p E a0 _ _ av aw) ?_
 rintro _ ba _ N ⟨L, rfl, rfl, aV⟩
 refine ⟨(Ic Mb0 (Ic Mb1 In0)), ?_⟩
 refine Ja 4 Z<|Ja 5 Z<|Ad<|?_
 refine fA (fun g e d => ∃ (M : SV) (ak : ae7), [(7, (sv M))] = g ∧ (.tok 131 10 [(sv M)]) :: G = d ∧ su ak = some y ∧ Slr gz e (sv M) ak) ?_ ?_
 ·refine fc<|fa<|Ea Z<|fb<|fC<|?_
  refine ga (fun aA g e d => ∃ (P : SV) (aa : ae7) (c : Int), [(0, (sv z)), (4, (Vp h)), (5, (Vp i)), (7, (sv P)), (8, (sv J)), (9, (sv L)), (10, (Vi c))] = g ∧ (.blk i 51 (fj p2 o p)) :: (.blk h 51 (fj p1 m n)) :: (.tok 131 10 [(sv P)]) :: G = d ∧ lp2 (sC p0 D E p2 p1) aA aa c = some y ∧ Slr gz e (sv P) aa) BIG ?_ ?_
  ·exact Shift.nilTok1 131 10<|Pu2<|Pu2<|Sd<|⟨_, by exact R7, fB, ([] : ae7), 0, rfl, rfl, H, (Slr.nil gz _)⟩
  rintro aA _ a5 _ I ⟨P, aa, c, rfl, rfl, H, aq⟩
  obtain ⟨bf, O, rfl, aJ, H⟩ := jR H
  unfold sC at H
  refine fc<|fc<|fa<|Em Z<|Em Z<|?_
  have ah := (aU.mono N).mono I
  refine Eq Z (gp (T := fX) ah rfl rfl)<|Ec Z<|fb<|?_
  refine fp rfl ?_ ?_
  ·intro U
   obtain ⟨U, H⟩ := It U H
   refine fy ?_
   refine fA (fun g e d => ∃ (ab : SV) (af : ae7), [(0, (sv z)), (4, (Vp h)), (5, (Vp i)), (7, (sv ab)), (8, (sv J)), (9, (sv L)), (10, (Vi c))] = g ∧ (.blk i 51 (fj p2 o p)) :: (.blk h 51 (fj p1 m n)) :: (.tok 131 10 [(sv ab)]) :: G = d ∧ sw p0 D E c p2 p1 O af = some y ∧ Slr gz e (sv ab) af) ?_ ?_
   ·refine fC<|fc<|fa<|Ea Z<|fb<|fC<|?_
    refine ga (fun aB g e d => ∃ (j : SV) (A : ae7) (f : Int), [(0, (sv z)), (4, (Vp h)), (5, (Vp i)), (7, (sv j)), (8, (sv J)), (9, (sv L)), (10, (Vi c)), (11, (Vi f))] = g ∧ (.blk i 51 (fj p2 o p)) :: (.blk h 51 (fj p1 m n)) :: (.tok 131 10 [(sv j)]) :: G = d ∧ lp2 (sB p0 D E c p2 p1 O) aB A f = some y ∧ Slr gz e (sv j) A) BIG ?_ ?_
    ·exact Pu2<|Pu2<|Pu2<|Sd<|⟨_, by exact R8, P, aa, 0, rfl, rfl, H, aq⟩
    rintro aB _ Q _ B ⟨j, A, f, rfl, rfl, H, ai⟩
    obtain ⟨bg, ae, rfl, an, H⟩ := jR H
    unfold sB at H
    refine fc<|fc<|fa<|Em Z<|Em Z<|?_
    have aj := (aV.mono I).mono B
    refine Eq Z (gp (T := fX) aj rfl rfl)<|Ec Z<|fb<|?_
    refine fp rfl ?_ ?_
    ·intro V
     obtain ⟨V, H⟩ := It V H
     refine fy<|fc<|fC<|fc<|fa<|Ea Z<|Ea Z<|fb<|?_
     refine fA (fun g e d => ∃ (a : Int), [(0, (sv z)), (4, (Vp h)), (5, (Vp i)), (7, (sv j)), (8, (sv J)), (9, (sv L)), (10, (Vi c)), (11, (Vi f)), (12, (Vi a)), (13, (Vi (-1)))] = g ∧ Q = e ∧ (.blk i 51 (fj p2 o p)) :: (.blk h 51 (fj p1 m n)) :: (.tok 131 10 [(sv j)]) :: G = d ∧ mS p0 A D E c f p2 p1 O ae a = some y) ?_ ?_
     ·refine fc<|fa<|EF 0 Z<|El (Vi p1.kind) Z (Rb1 Z)<|Ec Z<|fb<|?_
      refine fp rfl ?_ ?_
      ·intro W
       obtain ⟨W, H⟩ := It W H
       exact fa<|Em Z<|Ea Z<|fb<|Pu2<|Pu2<|Pu2<|Sd<|⟨_, by exact R10, c, rfl, rfl, rfl, H⟩
      ·intro W
       obtain ⟨W, H⟩ := If W H
       exact fy<|Pu2<|Pu2<|Pu2<|Sd<|⟨_, by exact R10, (-1), rfl, rfl, rfl, H⟩
     rintro _ _ _ - ⟨a, rfl, rfl, rfl, H⟩
     unfold mS at H
     refine fA (fun g e d => ∃ (b : Int), [(0, (sv z)), (4, (Vp h)), (5, (Vp i)), (7, (sv j)), (8, (sv J)), (9, (sv L)), (10, (Vi c)), (11, (Vi f)), (12, (Vi a)), (13, (Vi b))] = g ∧ Q = e ∧ (.blk i 51 (fj p2 o p)) :: (.blk h 51 (fj p1 m n)) :: (.tok 131 10 [(sv j)]) :: G = d ∧ mR p0 A D E c f a p2 p1 O ae b = some y) ?_ ?_
     ·refine fc<|fa<|EF 0 Z<|El (Vi p2.kind) Z (Rb0 Z)<|Ec Z<|fb<|?_
      refine fp rfl ?_ ?_
      ·intro X
       obtain ⟨X, H⟩ := It X H
       exact fa<|Em Z<|Ea Z<|fb<|Pu2<|Pu2<|Pu2<|Sd<|⟨_, by exact R10, f, rfl, rfl, rfl, H⟩
      ·intro X
       obtain ⟨X, H⟩ := If X H
       exact fy<|Pu2<|Pu2<|Pu2<|Sd<|⟨_, by exact R10, (-1), rfl, rfl, rfl, H⟩
     rintro _ _ _ - ⟨b, rfl, rfl, rfl, H⟩
     unfold mR at H
     refine fA (fun g e d => ∃ (R : Nat) (S : Nat) (ad : Int), [(0, (sv z)), (4, (Vp h)), (5, (Vp i)), (7, (sv j)), (8, (sv J)), (9, (sv L)), (10, (Vi c)), (11, (Vi f)), (12, (Vi a)), (13, (Vi b)), (14, (Vp R)), (15, (Vp S))] = g ∧ Q = e ∧ (.blk S 38 (fe (Result.mk 2 b ad true 0))) :: (.blk R 38 (fe (Result.mk 1 a 0 false 0))) :: (.blk i 51 (fj p2 o p)) :: (.blk h 51 (fj p1 m n)) :: (.tok 131 10 [(sv j)]) :: G = d ∧ sA p0 A D E c f a b p2 p1 O ae ad = some y) ?_ ?_
     ·obtain ⟨C, ax, H⟩ := bnd H
      refine fx _ rfl (Ic Mb0 (Ic Mb1 (Ic Mb2 In0)))<|Jm 0 Z<|Jq 1 Z (fH (cs := (fe (Result.mk 1 a 0 false 0))) rfl rfl rfl rfl rfl rfl)<|Jm 2 Z<|Jm 3 Z<|Jm 4 Z<|?_
      have ar := ah.mono B
      obtain ⟨_, rfl, aG⟩ := Slr.at ar ax
      refine Jq 5 Z (Qi (T := fX) ar ax Z)<|JF 6 2 Z<|Jl 7 (.int .u64 C.value) Z (Rdc.k aG rfl)<|Jq 8 Z (fH (cs := (fe (Result.mk 2 b C.value true 0))) rfl rfl rfl rfl rfl rfl)<|?_
      refine gX 9 10 (by kernel_rfl) ?_ ?_
      ·refine id (Jy Z ?_)
       refine fE (cs := (fe (Result.mk 0 0 0 false 0))) rfl rfl rfl rfl (fun aC => ⟨(Ic Mb1 (Ic Mb2 (Ic Mb3 In0))), ?_⟩)
       refine Ao 10 Z ?_
       refine fE (cs := (fe (Result.mk 0 0 0 false 0))) rfl rfl rfl rfl (fun aD => ⟨(Ic Mb2 (Ic Mb3 (Ic Mb4 In0))), ?_⟩)
       refine Ao 11 Z ?_
       refine fm (vs := (fe (Result.mk 1 a 0 false 0))) (all' := (fe (Result.mk 1 a 0 false 0))) rfl rfl rfl rfl rfl (.there .here) rfl rfl rfl ⟨(Ic Mb2 (Ic Mb3 (Ic Mb4 In0))), ?_⟩
       refine Ao 12 Z ?_
       refine fm (vs := (fe (Result.mk 2 b C.value true 0))) (all' := (fe (Result.mk 2 b C.value true 0))) rfl rfl rfl rfl rfl .here rfl rfl rfl ⟨(Ic Mb2 (Ic Mb3 (Ic Mb4 In0))), ?_⟩
       exact Ad<|Pu4<|Pu4<|Pu4<|Pu4<|Pu4<|Sd<|⟨_, by exact R12, aC, aD, C.value, rfl, rfl, rfl, H⟩
      ·refine id (Jy Z ?_)
       refine fE (cs := (fe (Result.mk 0 0 0 false 0))) rfl rfl rfl rfl (fun aE => ⟨(Ic Mb1 (Ic Mb2 (Ic Mb3 In0))), ?_⟩)
       refine Ao 9 Z ?_
       refine fE (cs := (fe (Result.mk 0 0 0 false 0))) rfl rfl rfl rfl (fun aF => ⟨(Ic Mb2 (Ic Mb3 (Ic Mb4 In0))), ?_⟩)
       refine Ao 11 Z ?_
       refine fm (vs := (fe (Result.mk 1 a 0 false 0))) (all' := (fe (Result.mk 1 a 0 false 0))) rfl rfl rfl rfl rfl .here rfl rfl rfl ⟨(Ic Mb2 (Ic Mb3 (Ic Mb4 In0))), ?_⟩
       refine Ao 12 Z ?_
       refine fm (vs := (fe (Result.mk 2 b C.value true 0))) (all' := (fe (Result.mk 2 b C.value true 0))) rfl rfl rfl rfl rfl (.there .here) rfl rfl rfl ⟨(Ic Mb2 (Ic Mb3 (Ic Mb4 In0))), ?_⟩
       exact Ad<|Pu4<|Pu4<|Pu4<|Pu3<|Pu4<|Sd<|⟨_, by exact R12, aF, aE, C.value, rfl, rfl, rfl, H⟩
     rintro _ _ _ - ⟨R, S, ad, rfl, rfl, rfl, H⟩
     unfold sA at H
     refine fA (fun g e d => ∃ (r : Int) (s : Int) (w : Bool) (t : Int) (u : Int) (x : Bool), [(0, (sv z)), (4, (Vp h)), (5, (Vp i)), (7, (sv j)), (8, (sv J)), (9, (sv L)), (10, (Vi c)), (11, (Vi f)), (14, (Vp R)), (15, (Vp S))] = g ∧ Q = e ∧ (.blk S 38 (fe (Result.mk r b s w 0))) :: (.blk R 38 (fe (Result.mk t a u x 0))) :: (.blk i 51 (fj p2 o p)) :: (.blk h 51 (fj p1 m n)) :: (.tok 131 10 [(sv j)]) :: G = d ∧ pg p0 A D E c f b a p2 p1 O ae r s w t u x = some y) ?_ ?_
     ·refine fc<|fa<|Em Z<|Em Z<|?_
      obtain ⟨a2, ay, H⟩ := bnd H
      have au := ah.mono B
      obtain ⟨_, rfl, aH⟩ := Slr.at au ay
      refine Eq Z (Qi (T := fX) au ay Z)<|EF 0 Z<|El (.bool a2.send) Z (Rdc.k aH rfl)<|Eq Z (gg rfl)<|fb<|?_
      refine fp rfl ?_ ?_
      ·intro F
       have F := iC F
       have H := f5 (btf F) H
       refine fa<|Em Z<|Em Z<|Em Z<|?_
       obtain ⟨ac, az, H⟩ := bnd H
       obtain ⟨_, rfl, aI⟩ := Slr.at aj az
       refine Eq Z (Qi (T := fX) aj az Z)<|EF 2 Z<|El (.int .u64 ac.value) Z (Rdc.k aI rfl)<|Eq Z (fH (cs := (fe (Result.mk 2 a ac.value true 0))) rfl rfl rfl rfl rfl rfl)<|Em Z<|Eq Z (fH (cs := (fe (Result.mk 1 b 0 false 0))) rfl rfl rfl rfl rfl rfl)<|?_
       refine ff rfl (fm (vs := (fe (Result.mk 2 a ac.value true 0))) (all' := (fe (Result.mk 2 a ac.value true 0))) rfl rfl rfl rfl rfl (.there .here) rfl rfl rfl ?_)
       refine ff rfl (fm (vs := (fe (Result.mk 1 b 0 false 0))) (all' := (fe (Result.mk 1 b 0 false 0))) rfl rfl rfl rfl rfl .here rfl rfl rfl ?_)
       exact fb<|Pu4<|Pu4<|Pu4<|Pu4<|Pu4<|Sd<|⟨_, by exact R10, 1, 0, false, 2, ac.value, true, rfl, rfl, rfl, H⟩
      ·intro F
       have F := iz F
       have H := ift F H
       exact fy<|Pu4<|Pu4<|Pu4<|Pu4<|Pu4<|Sd<|⟨_, by exact R10, 2, ad, true, 1, 0, false, rfl, rfl, rfl, H⟩
     rintro _ _ _ - ⟨r, s, w, t, u, x, rfl, rfl, rfl, H⟩
     unfold pg at H
     refine fc<|fa<|Em Z<|EL 7 (fj p1 m n) Z (Rb3 Z)<|EL 5 (fe (Result.mk t a u x 0)) Z (Rb1 Z)<|EL 7 (fj p2 o p) Z (Rb2 Z)<|EL 5 (fe (Result.mk r b s w 0)) Z (Rb0 Z)<|?_
     obtain ⟨a3, aX, H⟩ := bnd H
     have aO := (((aK.mono Y).mono N).mono I).mono B
     have aP := (((ao.mono Y).mono N).mono I).mono B
     have aQ := (((ap.mono Y).mono N).mono I).mono B
     have aR := ((av.mono N).mono I).mono B
     have aS := ((aw.mono N).mono I).mono B
     refine ff rfl (Ek Tryz.call64 Z (Fo p0 z p1 m n (Result.mk t a u x 0) p2 o p (Result.mk r b s w 0) a3 aX _ _ aO aP aQ aR aS) ?_)
     rintro _ _ _ - ⟨rfl, rfl, rfl⟩
     refine fb ?_
     refine fp rfl ?_ ?_
     ·intro ag
      have H := ift ag H
      refine fa<|Em Z<|EL 5 (fe (Result.mk t a u x 0)) Z (Rb1 Z)<|EL 5 (fe (Result.mk r b s w 0)) Z (Rb0 Z)<|Eq Z (lY (cs := (hZ (gn.mk (Result.mk t a u x 0) (Result.mk r b s w 0)))) rfl rfl rfl rfl rfl rfl)<|?_
      have am : RowR gz Q [(hZ (gn.mk (Result.mk t a u x 0) (Result.mk r b s w 0)))] [(gn.mk (Result.mk t a u x 0) (Result.mk r b s w 0))] := RowR.cons rfl (RowR.nil)
      refine ff rfl (gh (T := gz) (rows := [(hZ (gn.mk (Result.mk t a u x 0) (Result.mk r b s w 0)))]) (l := [(gn.mk (Result.mk t a u x 0) (Result.mk r b s w 0))]) rfl rfl rfl am rfl rfl rfl rfl rfl rfl rfl rfl (fun bh => ?_))
      obtain ⟨a4, aY, H⟩ := bnd H
      refine ff rfl (f6 (T := gz) (bytes := 80) (q := 0) rfl rfl rfl ai Mb5 rfl (SrcT.row Mb0 am rfl) aY rfl rfl rfl rfl rfl rfl rfl rfl (fun a1 a6 bc aT => ⟨_, (.there (.there (.there (.there (.there .here))))), ?_⟩))
      refine Ow.shift (Re0 (Sd ?_))
      exact Ea Z<|fb<|fa<|Em Z<|Er (wI (f + 1)) Z<|Ea Z<|fb<|Pu4<|Pu4<|Pu4<|Re3<|Re3<|Sd<|⟨_, by exact R8, _, Nat.lt_succ_self _, a1, a4, (wI (f + 1)), rfl, rfl, (an ▸ H), aT⟩
     ·intro ag
      have H := f5 (btf ag) H
      exact fy<|fa<|Em Z<|Er (wI (f + 1)) Z<|Ea Z<|fb<|Pu4<|Pu4<|Pu4<|Re3<|Re3<|Sd<|⟨_, by exact R8, _, Nat.lt_succ_self _, j, A, (wI (f + 1)), rfl, rfl, (an ▸ H), ai⟩
    ·intro V
     obtain ⟨V, H⟩ := If V H
     exact ge<|Pu2<|Pu2<|Pu2<|Sd<|⟨_, by exact R7, j, A, rfl, rfl, H, ai⟩
   rintro _ a7 _ bd ⟨ab, af, rfl, rfl, H, aN⟩
   unfold sw at H
   exact fa<|Em Z<|Er (wI (c + 1)) Z<|Ea Z<|fb<|Pu2<|Pu2<|Pu2<|Sd<|⟨_, by exact R7, _, Nat.lt_succ_self _, ab, af, (wI (c + 1)), rfl, rfl, (aJ ▸ H), aN⟩
  ·intro U
   obtain ⟨U, H⟩ := If U H
   exact ge<|Pu2<|Re1<|Re1<|Sd<|⟨_, by exact R1, P, aa, rfl, rfl, H, aq⟩
 rintro _ a8 _ be ⟨M, ak, rfl, rfl, H, aW⟩
 unfold su at H
 refine fc<|fa<|Em Z<|Ea Z<|fb<|fz<|?_
 obtain bb := gu H
 subst y
 refine ⟨(by first|exact .inl rfl|exact .inr rfl), [(sv M)], ⟨(sv M), _, rfl, rfl, rfl⟩, ?_⟩
 exact Sd ⟨M, rfl, rfl, aW⟩
theorem DD (p0 : ad0) (e : SV) (p1 : Op) (a : SV) (b : SV) (p2 : Op) (c : SV) (d : SV) (f : Bool) (H : zg p0 p1 p2 = some f) (K : Kp) (G : List Ent) (h : Slr fK K (sv e) p0) (i : Slr fX K (sv a) p1.cases) (j : Slr Ty.i64 K (sv b) p1.draws) (k : Slr fX K (sv c) p2.cases) (l : Slr Ty.i64 K (sv d) p2.draws) :
  Fc Tryz.prog 108 #[(sv e), (.agg (fj p1 a b).toArray), (.agg (fj p2 c d).toArray)] K (G) (fun v o g => v = (.bool f) ∧ G = g) := by
 refine fN Tryz.func108 rfl Tryz.ntmps108 Tryz.results108 rfl ?_
 unfold zg at H
 refine fc<|fa<|?_
 refine ff rfl (fU (cs := (fj p1 a b)) rfl rfl rfl (fun r => ?_))
 refine ff rfl (fU (cs := (fj p2 c d)) rfl rfl rfl (fun q => ?_))
 refine Ea Z<|fb<|fc<|fa<|Em Z<|EL 7 (fj p1 a b) Z (Rb1 Z)<|EL 7 (fj p2 c d) Z (Rb0 Z)<|?_
 obtain ⟨x11, n, H⟩ := bnd H
 refine ff rfl (Ek Tryz.call86 Z (Am p0 e p1 a b p2 c d x11 n _ _ h i j k l) ?_)
 rintro _ p _ t ⟨u, rfl, rfl, m⟩
 refine Eq Z (gp (T := gz) m rfl rfl)<|Ec Z<|Ea Z<|fb<|fz<|?_
 obtain s := gu H
 subst f
 refine ⟨(by first|exact .inl rfl|exact .inr rfl), [(.bool (dcd ((x11.length : Int) > 0)))], ⟨(.bool (dcd ((x11.length : Int) > 0))), _, rfl, rfl, rfl⟩, ?_⟩
 exact Re0<|Re0<|Re0<|Sd<|⟨rfl, rfl⟩
end Go.Hx
namespace Go.Hx
open Go Go.Proofs
set_option maxRecDepth 10000
set_option maxHeartbeats 1000000
theorem Dx (p0 : ad6) (s : SV) (n : ae5) (H : sf p0 = some n) (K : Kp) (G : List Ent) (F : Slr f7 K (sv s) p0) :
  Fc Tryz.prog 34 #[(sv s)] K (G) (fun v i h => ∃ (t : SV), v = (sv t) ∧ (.tok 91 2 [(sv t)]) :: G = h ∧ Slr io i (sv t) n) := by
 refine fN Tryz.func34 rfl Tryz.ntmps34 Tryz.results34 rfl ?_
 unfold sf at H
 refine fc<|fa<|Ea Z<|fb<|fc<|fa<|Ea Z<|fb<|?_
 refine fA (fun o i h => ∃ (d : SV) (r : ae5), [(3, (sv d))] = o ∧ (.tok 91 2 [(sv d)]) :: G = h ∧ wl r = some n ∧ Slr io i (sv d) r) ?_ ?_
 ·refine fc<|fa<|Ea Z<|fb<|fC<|?_
  refine ga (fun n273 o i h => ∃ (e : SV) (m : ae5) (c : Int), [(0, (sv s)), (3, (sv e)), (4, (Vi c))] = o ∧ (.tok 91 2 [(sv e)]) :: G = h ∧ lp2 (se p0) n273 m c = some n ∧ Slr io i (sv e) m) BIG ?_ ?_
  ·exact Shift.nilTok1 91 2<|Sd<|⟨_, by exact R3, fB, ([] : ae5), 0, rfl, rfl, H, (Slr.nil io _)⟩
  rintro n273 _ A _ B ⟨e, m, c, rfl, rfl, H, p⟩
  obtain ⟨W, V, rfl, w, H⟩ := jR H
  unfold se at H
  refine fc<|fc<|fa<|Em Z<|Em Z<|?_
  have b := F.mono B
  refine Eq Z (gp (T := f7) b rfl rfl)<|Ec Z<|fb<|?_
  refine fp rfl ?_ ?_
  ·intro j
   obtain ⟨j, H⟩ := It j H
   refine fy<|fc<|fC<|fc<|fa<|Em Z<|Em Z<|?_
   obtain ⟨N, x, H⟩ := bnd H
   obtain ⟨_, rfl, C⟩ := Slr.at b x
   refine Eq Z (Qi (T := f7) b x Z)<|EF 2 Z<|El (.bool N.ret) Z (Rdc.k C rfl)<|Eq Z (gg rfl)<|fb<|?_
   refine fp rfl ?_ ?_
   ·intro a
    have a := iC a
    have H := f5 (btf a) H
    obtain ⟨f, y, H⟩ := bnd H
    obtain ⟨g, z, H⟩ := bnd H
    obtain ⟨O, L, H⟩ := bnd H
    refine fx _ rfl In0<|Jm 0 Z<|Jm 1 Z<|Jm 2 Z<|?_
    obtain ⟨_, rfl, D⟩ := Slr.at b y
    refine Jq 3 Z (Qi (T := f7) b y Z)<|JF 4 0 Z<|Jl 5 (Vi f.thread) Z (Rdc.k D rfl)<|Jm 6 Z<|Jm 7 Z<|?_
    obtain ⟨_, rfl, E⟩ := Slr.at b z
    refine Jq 8 Z (Qi (T := f7) b z Z)<|JF 9 1 Z<|Jl 10 (Vi g.op) Z (Rdc.k E rfl)<|Jq 11 Z (lY (cs := (iq (A2Int.mk f.thread g.op))) rfl rfl rfl rfl rfl rfl)<|?_
    refine Ao 12 Z ?_
    have u : RowR io A [(iq (A2Int.mk f.thread g.op))] [(A2Int.mk f.thread g.op)] := RowR.cons rfl (RowR.nil)
    refine gh (T := io) (rows := [(iq (A2Int.mk f.thread g.op))]) (l := [(A2Int.mk f.thread g.op)]) rfl rfl rfl u rfl rfl rfl rfl rfl rfl rfl rfl (fun X => ⟨In0, ?_⟩)
    refine Ao 13 Z ?_
    refine f6 (T := io) (bytes := 16) (q := 0) rfl rfl rfl p Mb1 rfl (SrcT.row Mb0 u rfl) L rfl rfl rfl rfl rfl rfl rfl rfl (fun M P S J => ⟨_, (.there .here), ⟨In0, ?_⟩⟩)
    refine Aw.shift (Re0 (Sd ⟨In0, ?_⟩))
    exact Ja 14 Z<|Ad<|fa<|Em Z<|Er (wI (c + 1)) Z<|Ea Z<|fb<|Sd<|⟨_, by exact R3, _, Nat.lt_succ_self _, M, O, (wI (c + 1)), rfl, rfl, (w ▸ H), J⟩
   ·intro a
    have a := iz a
    have H := ift a H
    exact fy<|fa<|Em Z<|Er (wI (c + 1)) Z<|Ea Z<|fb<|Sd<|⟨_, by exact R3, _, Nat.lt_succ_self _, e, m, (wI (c + 1)), rfl, rfl, (w ▸ H), p⟩
  ·intro j
   obtain ⟨j, H⟩ := If j H
   exact ge<|Sd<|⟨_, by exact R1, e, m, rfl, rfl, H, p⟩
 rintro _ Q _ U ⟨d, r, rfl, rfl, H, I⟩
 unfold wl at H
 refine fc<|fa<|Em Z<|Ea Z<|fb<|fz<|?_
 obtain R := gu H
 subst n
 refine ⟨(by first|exact .inl rfl|exact .inr rfl), [(sv d)], ⟨(sv d), _, rfl, rfl, rfl⟩, ?_⟩
 exact Sd ⟨d, rfl, rfl, I⟩
theorem xq (p0 : ad6) (j : SV) (p1 : Int) (p2 : Int) (p3 : Bool) (d : Int) (H : pJ p0 p1 p2 p3 = some d) (K : Kp) (G : List Ent) (c : Slr f7 K (sv j) p0) :
  Fc Tryz.prog 65 #[(sv j), (Vi p1), (Vi p2), (.bool p3)] K (G) (fun v e b => v = (Vi d) ∧ G = b) := by
 refine fN Tryz.func65 rfl Tryz.ntmps65 Tryz.results65 rfl ?_
 unfold pJ at H
 refine fc<|fa<|Ea Z<|fb<|?_
 refine fA (fun f e b => [] = f ∧ G = b ∧ wm = some d) ?_ ?_
 ·refine fc<|fa<|Ea Z<|fb<|fC<|?_
  refine ga (fun n157 f e b => ∃ (a : Int), [(0, (sv j)), (1, (Vi p1)), (2, (Vi p2)), (3, (.bool p3)), (9, (Vi a))] = f ∧ K = e ∧ G = b ∧ lp1 (sg p0 p1 p2 p3) n157 a = some d) BIG ?_ ?_
  ·exact Sd ⟨_, by exact R5, 0, rfl, rfl, rfl, H⟩
  rintro n157 _ _ _ - ⟨a, rfl, rfl, rfl, H⟩
  obtain ⟨C, x, rfl, w, H⟩ := oe H
  unfold sg at H
  refine fc<|fc<|fa<|Em Z<|Em Z<|Eq Z (gp (T := f7) c rfl rfl)<|Ec Z<|fb<|?_
  refine fp rfl ?_ ?_
  ·intro g
   obtain ⟨g, H⟩ := It g H
   refine fy<|fc<|fC<|?_
   refine fA (fun f e b => ∃ (m : Bool), [(0, (sv j)), (1, (Vi p1)), (2, (Vi p2)), (3, (.bool p3)), (9, (Vi a)), (40, (.bool m))] = f ∧ K = e ∧ G = b ∧ oW p0 p1 p2 p3 a x m = some d) ?_ ?_
   ·refine fa<|Em Z<|Em Z<|?_
    obtain ⟨y, n, H⟩ := bnd H
    obtain ⟨_, rfl, s⟩ := Slr.at c n
    refine Eq Z (Qi (T := f7) c n Z)<|EF 0 Z<|El (Vi y.thread) Z (Rdc.k s rfl)<|Em Z<|Ec Z<|Em Z<|?_
    refine Ee Z ?_ ?_
    ·intro h
     obtain ⟨h, H⟩ := It h H
     refine Vm Z<|Vm Z<|?_
     obtain ⟨z, o, H⟩ := bnd H
     obtain ⟨_, rfl, t⟩ := Slr.at c o
     refine Vq Z (Qi (T := f7) c o Z)<|VF 1 Z<|Vl (Vi z.op) Z (Rdc.k t rfl)<|Vm Z<|Vc Z<|Et Z<|Em Z<|?_
     refine Ee Z ?_ ?_
     ·intro i
      obtain ⟨i, H⟩ := It i H
      refine Vm Z<|Vm Z<|?_
      obtain ⟨q, p, H⟩ := bnd H
      obtain ⟨_, rfl, u⟩ := Slr.at c p
      exact Vq Z (Qi (T := f7) c p Z)<|VF 2 Z<|Vl (.bool q.ret) Z (Rdc.k u rfl)<|Vm Z<|Vq Z (xg rfl rfl rfl)<|Et Z<|fb<|Sd<|⟨_, by exact R6, (q.ret == p3), rfl, rfl, rfl, H⟩
     ·intro i
      obtain ⟨i, H⟩ := If i H
      exact Ez Z<|Ez Z<|Ez Z<|Ez Z<|Ez Z<|Ez Z<|Ez Z<|Ef Z<|fb<|Sd<|⟨_, by exact R6, false, rfl, rfl, rfl, H⟩
    ·intro h
     obtain ⟨h, H⟩ := If h H
     exact Ez Z<|Ez Z<|Ez Z<|Ez Z<|Ez Z<|Ez Z<|Ez Z<|Ef Z<|Em Z<|Ez Z<|Ez Z<|Ez Z<|Ez Z<|Ez Z<|Ez Z<|Ez Z<|Ef Z<|fb<|Sd<|⟨_, by exact R6, false, rfl, rfl, rfl, H⟩
   rintro _ _ _ - ⟨m, rfl, rfl, rfl, H⟩
   unfold oW at H
   refine fp rfl ?_ ?_
   ·intro l
    have H := ift l H
    refine fc<|fa<|Em Z<|Ea Z<|fb<|fz<|?_
    obtain r := gu H
    subst d
    refine ⟨(by first|exact .inl rfl|exact .inr rfl), [(Vi a)], ⟨(Vi a), _, rfl, rfl, rfl⟩, ?_⟩
    exact Sd ⟨rfl, rfl⟩
   ·intro l
    have H := f5 (btf l) H
    exact fy<|fa<|Em Z<|Er (wI (a + 1)) Z<|Ea Z<|fb<|Sd<|⟨_, by exact R5, _, Nat.lt_succ_self _, (wI (a + 1)), rfl, rfl, rfl, (w ▸ H)⟩
  ·intro g
   obtain ⟨g, H⟩ := If g H
   exact ge<|Sd<|⟨[], trivial, rfl, rfl, H⟩
 rintro _ A _ B ⟨rfl, rfl, H⟩
 unfold wm at H
 refine fc<|fa<|Ea Z<|fb<|fz<|?_
 obtain r := gu H
 subst d
 refine ⟨(by first|exact .inl rfl|exact .inr rfl), [(Vi (-1))], ⟨(Vi (-1)), _, rfl, rfl, rfl⟩, ?_⟩
 exact Sd ⟨rfl, rfl⟩
theorem yp (p0 : ad6) (e : SV) (p1 : Int) (p2 : Int) (c : Result) (d : Int) (H : sh p0 p1 p2 = some (c, d)) (K : Kp) (G : List Ent) (f : Slr f7 K (sv e) p0) :
  Fc Tryz.prog 33 #[(sv e), (Vi p1), (Vi p2)] K (G) (fun v p i => v = (.tuple #[(.agg (fe c).toArray), (Vi d)]) ∧ G = i) := by
 refine fN Tryz.func33 rfl Tryz.ntmps33 Tryz.results33 rfl ?_
 unfold sh at H
 refine fc<|fa<|?_
 refine ff rfl (fE (cs := (fe (Result.mk 0 0 0 false 0))) rfl rfl rfl rfl (fun r => ?_))
 refine Ea Z<|fb<|fc<|fa<|Em Z<|Em Z<|Em Z<|?_
 obtain ⟨x14, o, H⟩ := bnd H
 refine ff rfl (Ek Tryz.call65 Z (xq p0 e p1 p2 true x14 o _ _ f) ?_)
 rintro _ q _ m ⟨rfl, rfl⟩
 refine Ea Z<|fb<|fc<|fc<|fa<|Em Z<|Ec Z<|fb<|?_
 refine fp rfl ?_ ?_
 ·intro b
  obtain ⟨b, H⟩ := It b H
  refine fc<|fa<|Eq Z (fH (cs := (fe (Result.mk 0 0 0 false 0))) rfl rfl rfl rfl rfl rfl)<|?_
  refine ff rfl (fm (vs := (fe (Result.mk 0 0 0 false 0))) (all' := (fe (Result.mk 0 0 0 false 0))) rfl rfl rfl rfl rfl .here rfl rfl rfl ?_)
  refine Ea Z<|fb<|fz<|?_
  obtain ⟨j, l⟩ := ig H
  subst c d
  refine ⟨(by first|exact .inl rfl|exact .inr rfl), [(.agg (fe (Result.mk 0 0 0 false 0)).toArray), (Vi (-1))], ⟨(.agg (fe (Result.mk 0 0 0 false 0)).toArray), _, rfl, ⟨_, 5, (fe (Result.mk 0 0 0 false 0)), rfl, rfl, rfl, rfl, ⟨rfl, Rb0 Z⟩, rfl⟩, ⟨(Vi (-1)), _, rfl, rfl, rfl⟩⟩, ?_⟩
  exact Re0<|Sd<|⟨rfl, rfl⟩
 ·intro b
  obtain ⟨b, H⟩ := If b H
  refine fy<|fc<|fa<|Em Z<|Em Z<|?_
  obtain ⟨a, h, H⟩ := bnd H
  have g := f.mono m
  obtain ⟨_, rfl, n⟩ := Slr.at g h
  refine Eq Z (Qi (T := f7) g h Z)<|EF 3 Z<|EL 5 (fe a.result) Z (Rdc.k n rfl)<|Em Z<|?_
  refine ff rfl (fm (vs := (fe a.result)) (all' := (fe a.result)) rfl rfl rfl rfl rfl .here rfl rfl rfl ?_)
  refine Ea Z<|fb<|fz<|?_
  obtain ⟨j, l⟩ := ig H
  subst c d
  refine ⟨(by first|exact .inl rfl|exact .inr rfl), [(.agg (fe a.result).toArray), (Vi x14)], ⟨(.agg (fe a.result).toArray), _, rfl, ⟨_, 5, (fe a.result), rfl, rfl, rfl, rfl, ⟨rfl, Rb0 Z⟩, rfl⟩, ⟨(Vi x14), _, rfl, rfl, rfl⟩⟩, ?_⟩
  exact Re0<|Sd<|⟨rfl, rfl⟩
theorem Dy (p0 : ad6) (d : SV) (p1 : A2Int) (p2 : A2Int) (e : Bool) (H : si p0 p1 p2 = some e) (K : Kp) (G : List Ent) (h : Slr f7 K (sv d) p0) :
  Fc Tryz.prog 35 #[(sv d), (.agg (iq p1).toArray), (.agg (iq p2).toArray)] K (G) (fun v g f => v = (.bool e) ∧ G = f) := by
 refine fN Tryz.func35 rfl Tryz.ntmps35 Tryz.results35 rfl ?_
 unfold si at H
 refine fc<|fa<|?_
 refine ff rfl (fU (cs := (iq p1)) rfl rfl rfl (fun t => ?_))
 refine ff rfl (fU (cs := (iq p2)) rfl rfl rfl (fun u => ?_))
 refine Ea Z<|fb<|fc<|?_
 obtain ⟨i, p, H⟩ := bnd H
 obtain ⟨j, r, H⟩ := bnd H
 refine fx _ rfl (Ic Mb0 (Ic Mb1 In0))<|Jm 0 Z<|Jq 1 Z (iH (q := 0) (m := 0) rfl rfl rfl rfl rfl (by decide) rfl (by decide))<|Jl 2 (Vi p1.x0) Z (Rb1 Z)<|Jq 3 Z (iH (q := 1) (m := 1) rfl rfl rfl rfl rfl (by decide) rfl (by decide))<|Jl 4 (Vi p1.x1) Z (Rb1 Z)<|Jm 6 Z<|Jq 7 Z (iH (q := 0) (m := 0) rfl rfl rfl rfl rfl (by decide) rfl (by decide))<|Jl 8 (Vi p2.x0) Z (Rb0 Z)<|Jq 9 Z (iH (q := 1) (m := 1) rfl rfl rfl rfl rfl (by decide) rfl (by decide))<|Jl 10 (Vi p2.x1) Z (Rb0 Z)<|?_
 refine Ao 5 Z ?_
 refine Ek Tryz.call65 Z (xq p0 d p1.x0 p1.x1 true i p _ _ h) ?_
 rintro _ s _ n ⟨rfl, rfl⟩
 refine ⟨(Ic Mb0 (Ic Mb1 In0)), ?_⟩
 refine Ao 11 Z ?_
 have o := h.mono n
 refine Ek Tryz.call65 Z (xq p0 d p2.x0 p2.x1 false j r _ _ o) ?_
 rintro _ k _ x ⟨rfl, rfl⟩
 refine ⟨(Ic Mb0 (Ic Mb1 In0)), ?_⟩
 refine Ja 12 Z<|Ja 13 Z<|Ad<|?_
 refine fA (fun l g f => ∃ (c : Bool), [(6, (.bool c))] = l ∧ k = g ∧ G = f ∧ oY c = some e) ?_ ?_
 ·refine fa<|Em Z<|Ec Z<|Em Z<|?_
  refine Ee Z ?_ ?_
  ·intro a
   obtain ⟨a, H⟩ := It a H
   refine Vm Z<|Vc Z<|Et Z<|Em Z<|?_
   refine Ee Z ?_ ?_
   ·intro b
    obtain ⟨b, H⟩ := It b H
    exact Vm Z<|Vm Z<|Vc Z<|Et Z<|Ea Z<|fb<|Re0<|Re0<|Sd<|⟨_, by exact R1, (dcd (i < j)), rfl, rfl, rfl, H⟩
   ·intro b
    obtain ⟨b, H⟩ := If b H
    exact Ez Z<|Ez Z<|Ez Z<|Ef Z<|Ea Z<|fb<|Re0<|Re0<|Sd<|⟨_, by exact R1, false, rfl, rfl, rfl, H⟩
  ·intro a
   obtain ⟨a, H⟩ := If a H
   exact Ez Z<|Ez Z<|Ef Z<|Em Z<|Ez Z<|Ez Z<|Ez Z<|Ef Z<|Ea Z<|fb<|Re0<|Re0<|Sd<|⟨_, by exact R1, false, rfl, rfl, rfl, H⟩
 rintro _ _ _ - ⟨c, rfl, rfl, rfl, H⟩
 unfold oY at H
 refine fz ?_
 obtain w := gu H
 subst e
 refine ⟨(by first|exact .inl rfl|exact .inr rfl), [(.bool c)], ⟨(.bool c), _, rfl, rfl, rfl⟩, ?_⟩
 exact Sd ⟨rfl, rfl⟩
theorem Dz (p0 : ae4) (f : SV) (p1 : ad6) (b : SV) (p2 : Bool) (p3 : Bool) (y : ae4) (z : ad6) (A : ae5) (B : af4) (C : ae1) (D : ad5) (E : Bool) (F : Bool) (H : sj p0 p1 p2 p3 = some (y, z, A, B, C, D, E, F)) (K : Kp) (G : List Ent) (bv : Slr (Ty.sl hQ) K (sv f) p0) (aa : Slr f7 K (sv b) p1) :
  Fc Tryz.prog 25 #[(sv f), (sv b), (.bool p2), (.bool p3)] K (G) (fun v c h => ∃ (aR : Nat) (bc : SV) (bd : SV) (aK : SV) (aL : SV) (aM : SV) (aN : SV), v = (Vp aR) ∧ (.blk aR 76 [(sv bc), (sv bd), (sv aK), (sv aL), (sv aM), (sv aN), (.bool E), (.bool F), (sv fB)]) :: (.tok 91 2 [(sv aK)]) :: (.tok 71 1 [(sv aL)]) :: (.tok 4 1 [(sv aM)]) :: (.tok 38 5 [(sv aN)]) :: G = h ∧ Slr (Ty.sl hQ) c (sv bc) y ∧ Slr f7 c (sv bd) z ∧ Slr io c (sv aK) A ∧ Slr (Ty.sl Ty.bool) c (sv aL) B ∧ Slr Ty.bool c (sv aM) C ∧ Slr fM c (sv aN) D) := by
 refine fN Tryz.func25 rfl Tryz.ntmps25 Tryz.results25 rfl ?_
 unfold sj at H
 refine fc<|fa<|Ea Z<|fb<|fc<|fa<|Em Z<|Em Z<|Em Z<|?_
 obtain ⟨M, b0, H⟩ := bnd H
 refine ff rfl (Ek Tryz.call34 Z (Dx p1 b M b0 _ _ aa) ?_)
 rintro _ cg _ Y ⟨a, rfl, rfl, a2⟩
 refine Em Z<|Em Z<|Eq Z (fH (cs := [(sv f), (sv b), (sv a), (sv fB), (sv fB), (sv fB), (.bool p2), (.bool p3), (sv fB)]) rfl rfl rfl rfl rfl rfl)<|?_
 refine ff rfl (fU (cs := [(sv f), (sv b), (sv a), (sv fB), (sv fB), (sv fB), (.bool p2), (.bool p3), (sv fB)]) rfl rfl rfl (fun d => ?_))
 refine Ea Z<|fb<|?_
 refine fA (fun j c h => ∃ (ak : SV) (aD : af4) (al : SV) (aE : ae1) (am : SV) (aF : ad5), [(9, (Vp d))] = j ∧ (.blk d 76 [(sv f), (sv b), (sv a), (sv ak), (sv al), (sv am), (.bool p2), (.bool p3), (sv fB)]) :: (.tok 71 1 [(sv ak)]) :: (.tok 4 1 [(sv al)]) :: (.tok 38 5 [(sv am)]) :: (.tok 91 2 [(sv a)]) :: G = h ∧ wn p0 p1 M p2 p3 aD aE aF = some (y, z, A, B, C, D, E, F) ∧ Slr (Ty.sl Ty.bool) c (sv ak) aD ∧ Slr Ty.bool c (sv al) aE ∧ Slr fM c (sv am) aF) ?_ ?_
 ·refine fc<|fa<|Ea Z<|fb<|fC<|?_
  refine ga (fun ba j c h => ∃ (i : Int) (e : SV) (J : af4) (L : SV) (ad : ae1) (w : SV) (ae : ad5), [(1, (sv b)), (9, (Vp d)), (10, (Vi i))] = j ∧ (.blk d 76 [(sv f), (sv b), (sv a), (sv e), (sv L), (sv w), (.bool p2), (.bool p3), (sv fB)]) :: (.tok 71 1 [(sv e)]) :: (.tok 4 1 [(sv L)]) :: (.tok 38 5 [(sv w)]) :: (.tok 91 2 [(sv a)]) :: G = h ∧ lp4 (wx p1 p0 M p2 p3) ba i J ad ae = some (y, z, A, B, C, D, E, F) ∧ Slr (Ty.sl Ty.bool) c (sv e) J ∧ Slr Ty.bool c (sv L) ad ∧ Slr fM c (sv w) ae) BIG ?_ ?_
  ·exact Shift.nilTok1 71 1<|Shift.nilTok1 4 1<|Shift.nilTok1 38 5<|Pu4<|Pu1<|Pu2<|Pu3<|Pu4<|Sd<|⟨_, by exact R3, 0, fB, ([] : af4), fB, ([] : ae1), fB, ([] : ad5), rfl, rfl, H, (Slr.nil (Ty.sl Ty.bool) _), (Slr.nil Ty.bool _), (Slr.nil fM _)⟩
  rintro ba _ b4 _ an ⟨i, e, J, L, ad, w, ae, rfl, rfl, H, aZ, a0, aC⟩
  obtain ⟨cy, ac, rfl, bt, H⟩ := lps4 H
  unfold wx at H
  refine fc<|fc<|fa<|Em Z<|Em Z<|Eq Z (fD rfl)<|EF 2 Z<|El (sv a) Z (Rb0 Z)<|?_
  have R := a2.mono an
  refine Eq Z (gp (T := io) R rfl rfl)<|Ec Z<|fb<|?_
  refine fp rfl ?_ ?_
  ·intro V
   obtain ⟨V, H⟩ := It V H
   refine fy ?_
   refine fA (fun j c h => ∃ (ah : SV) (aq : af4) (ai : SV) (ar : ae1) (aj : SV) (au : ad5), [(1, (sv b)), (9, (Vp d)), (10, (Vi i))] = j ∧ (.blk d 76 [(sv f), (sv b), (sv a), (sv ah), (sv ai), (sv aj), (.bool p2), (.bool p3), (sv fB)]) :: (.tok 71 1 [(sv ah)]) :: (.tok 4 1 [(sv ai)]) :: (.tok 38 5 [(sv aj)]) :: (.tok 91 2 [(sv a)]) :: G = h ∧ wo p1 i p0 M p2 p3 ac aq ar au = some (y, z, A, B, C, D, E, F) ∧ Slr (Ty.sl Ty.bool) c (sv ah) aq ∧ Slr Ty.bool c (sv ai) ar ∧ Slr fM c (sv aj) au) ?_ ?_
   ·refine fC ?_
    refine fA (fun j c h => ∃ (ax : Nat) (N : Int) (n : Int) (o : Int) (p : Int) (t : Bool) (s : Int), [(1, (sv b)), (9, (Vp d)), (10, (Vi i)), (11, (Vp ax)), (12, (Vi N))] = j ∧ (.blk ax 38 (fe (Result.mk n o p t s))) :: (.blk d 76 [(sv f), (sv b), (sv a), (sv e), (sv L), (sv w), (.bool p2), (.bool p3), (sv fB)]) :: (.tok 71 1 [(sv e)]) :: (.tok 4 1 [(sv L)]) :: (.tok 38 5 [(sv w)]) :: (.tok 91 2 [(sv a)]) :: G = h ∧ ww p1 i p0 M J ad ae p2 p3 ac N n o p t s = some (y, z, A, B, C, D, E, F)) ?_ ?_
    ·obtain ⟨aO, a3, H⟩ := bnd H
     obtain ⟨aP, a4, H⟩ := bnd H
     obtain ⟨g, av, a5, H⟩ := iy H
     refine fx _ rfl (Ic Mb0 (Ic Mb1 (Ic Mb2 (Ic Mb3 (Ic Mb4 In0)))))<|Jm 0 Z<|Jm 1 Z<|Jq 2 Z (fD rfl)<|JF 3 2 Z<|Jl 4 (sv a) Z (Rb0 Z)<|Jm 5 Z<|?_
     obtain ⟨_, rfl, bp⟩ := Slr.at R a3
     refine Jq 6 Z (Qi (T := io) R a3 Z)<|Jq 7 Z (iH (q := 0) (m := 0) rfl rfl rfl rfl rfl (by decide) rfl (by decide))<|Jl 8 (Vi aO.x0) Z (Rdc.k bp rfl)<|Jm 9 Z<|Jq 10 Z (fD rfl)<|JF 11 2 Z<|Jl 12 (sv a) Z (Rb0 Z)<|Jm 13 Z<|?_
     obtain ⟨_, rfl, bq⟩ := Slr.at R a4
     refine Jq 14 Z (Qi (T := io) R a4 Z)<|Jq 15 Z (iH (q := 1) (m := 1) rfl rfl rfl rfl rfl (by decide) rfl (by decide))<|Jl 16 (Vi aP.x1) Z (Rdc.k bq rfl)<|?_
     refine gX 17 21 (by kernel_rfl) ?_ ?_
     ·refine id (Jy Z ?_)
      have bB := (aa.mono Y).mono an
      refine Ek Tryz.call33 Z (yp p1 b aO.x0 aP.x1 g av a5 _ _ bB) ?_
      rintro _ b5 _ cq ⟨rfl, rfl⟩
      refine ⟨(Ic Mb0 (Ic Mb1 (Ic Mb2 (Ic Mb3 (Ic Mb4 In0))))), ?_⟩
      refine Jm 18 Z<|Jx 19 Z<|Jx 20 Z<|?_
      refine Ao 21 Z ?_
      refine fE (cs := (fe (Result.mk 0 0 0 false 0))) rfl rfl rfl rfl (fun bj => ⟨(Ic Mb1 (Ic Mb2 (Ic Mb3 (Ic Mb4 (Ic Mb5 In0))))), ?_⟩)
      refine Ao 22 Z ?_
      refine fm (vs := (fe g)) (all' := (fe g)) rfl rfl rfl rfl rfl .here rfl rfl rfl ⟨(Ic Mb1 (Ic Mb2 (Ic Mb3 (Ic Mb4 (Ic Mb5 In0))))), ?_⟩
      exact Ja 23 Z<|Ad<|Pu5<|Pu5<|Pu5<|Pu5<|Pu5<|Pu5<|Sd<|⟨_, by exact R5, bj, av, g.kind, g.case_, g.value, g.ok, g.number, rfl, rfl, H⟩
     ·refine id (Jy Z ?_)
      refine fE (cs := (fe (Result.mk 0 0 0 false 0))) rfl rfl rfl rfl (fun bk => ⟨(Ic Mb1 (Ic Mb2 (Ic Mb3 (Ic Mb4 (Ic Mb5 In0))))), ?_⟩)
      refine Ao 17 Z ?_
      have bC := (aa.mono Y).mono an
      refine Ek Tryz.call33 Z (yp p1 b aO.x0 aP.x1 g av a5 _ _ bC) ?_
      rintro _ b6 _ cr ⟨rfl, rfl⟩
      refine ⟨(Ic Mb1 (Ic Mb2 (Ic Mb3 (Ic Mb4 (Ic Mb5 In0))))), ?_⟩
      refine Jm 18 Z<|Jx 19 Z<|Jx 20 Z<|?_
      refine Ao 22 Z ?_
      refine fm (vs := (fe g)) (all' := (fe g)) rfl rfl rfl rfl rfl .here rfl rfl rfl ⟨(Ic Mb1 (Ic Mb2 (Ic Mb3 (Ic Mb4 (Ic Mb5 In0))))), ?_⟩
      exact Ja 23 Z<|Ad<|Pu5<|Pu5<|Pu5<|Pu5<|Pu5<|Pu5<|Sd<|⟨_, by exact R5, bk, av, g.kind, g.case_, g.value, g.ok, g.number, rfl, rfl, H⟩
    rintro _ bh _ Q ⟨ax, N, n, o, p, t, s, rfl, rfl, H⟩
    unfold ww at H
    refine fc<|fa<|Em Z<|Em Z<|Eq Z (fD rfl)<|EF 4 Z<|El (sv L) Z (Rb1 Z)<|Em Z<|Ec Z<|?_
    have aU : RowR Ty.bool bh [[(.bool (dcd (N ≥ 0)))]] [dcd (N ≥ 0)] := RowR.cons rfl (RowR.nil)
    refine ff rfl (gh (T := Ty.bool) (rows := [[(.bool (dcd (N ≥ 0)))]]) (l := [dcd (N ≥ 0)]) rfl rfl rfl aU rfl rfl rfl rfl rfl rfl rfl rfl (fun cB => ?_))
    obtain ⟨aw, bW, H⟩ := bnd H
    have bE := a0.mono Q
    refine ff rfl (f6 (T := Ty.bool) (bytes := 1) (q := 0) rfl rfl rfl bE Mb4 rfl (SrcT.row Mb0 aU rfl) bW rfl rfl rfl rfl rfl rfl rfl rfl (fun u aQ X bD => ⟨_, (.there (.there (.there (.there .here)))), ?_⟩))
    refine Ow.shift (Re0 (Sd ?_))
    refine Eq Z (fD rfl)<|EF 4 Z<|?_
    refine ff rfl (fm (vs := [(sv u)]) (all' := [(sv f), (sv b), (sv a), (sv e), (sv u), (sv w), (.bool p2), (.bool p3), (sv fB)]) rfl rfl rfl rfl rfl (.there .here) rfl rfl rfl ?_)
    refine fb ?_
    refine fA (fun j c h => ∃ (x : SV) (S : ad5), [(1, (sv b)), (9, (Vp d)), (10, (Vi i))] = j ∧ (.blk d 76 [(sv f), (sv b), (sv a), (sv e), (sv u), (sv x), (.bool p2), (.bool p3), (sv fB)]) :: (.tok 38 5 [(sv x)]) :: (.tok 71 1 [(sv e)]) :: (.tok 4 1 [(sv u)]) :: (.tok 91 2 [(sv a)]) :: G = h ∧ wv p1 i p0 M J aw p2 p3 ac S = some (y, z, A, B, C, D, E, F) ∧ Slr fM c (sv x) S) ?_ ?_
    ·obtain ⟨be, a6, H⟩ := bnd H
     refine fx _ rfl (Ic Mb0 (Ic Mb2 (Ic Mb3 (Ic Mb5 In0))))<|Jm 0 Z<|Jm 1 Z<|Jq 2 Z (fD rfl)<|JF 3 5 Z<|JL 5 5 (fe (Result.mk n o p t s)) Z (Rb0 Z)<|?_
     refine gX 4 6 (by kernel_rfl) ?_ ?_
     ·refine id (Jyq Z (gv (v := (sv w)) rfl rfl rfl (Rb1 Z)) ⟨(Ic Mb0 (Ic Mb2 (Ic Mb3 (Ic Mb5 In0)))), ?_⟩)
      refine Ao 6 Z ?_
      have aV : RowR fM aQ [(fe (Result.mk n o p t s))] [(Result.mk n o p t s)] := RowR.cons rfl (RowR.nil)
      refine gh (T := fM) (rows := [(fe (Result.mk n o p t s))]) (l := [(Result.mk n o p t s)]) rfl rfl rfl aV rfl rfl rfl rfl rfl rfl rfl rfl (fun cC => ⟨(Ic Mb1 (Ic Mb3 (Ic Mb4 (Ic Mb6 In0)))), ?_⟩)
      refine Ao 7 Z ?_
      have bH := (aC.mono Q).mono X
      refine f6 (T := fM) (bytes := 40) (q := 0) rfl rfl rfl bH Mb5 rfl (SrcT.row Mb0 aV rfl) a6 rfl rfl rfl rfl rfl rfl rfl rfl (fun aH b7 ct bG => ⟨_, (.there (.there (.there (.there (.there .here))))), ⟨(Ic Mb1 (Ic Mb3 (Ic Mb4 (Ic Mb6 In0)))), ?_⟩⟩)
      refine Aw.shift (Re0 (Sd ⟨(Ic Mb0 (Ic Mb2 (Ic Mb3 (Ic Mb5 In0)))), ?_⟩))
      refine Jq 8 Z (fD rfl)<|JF 9 5 Z<|?_
      refine Ao 10 Z ?_
      refine fm (vs := [(sv aH)]) (all' := [(sv f), (sv b), (sv a), (sv e), (sv u), (sv aH), (.bool p2), (.bool p3), (sv fB)]) rfl rfl rfl rfl rfl (.there .here) rfl rfl rfl ⟨(Ic Mb0 (Ic Mb2 (Ic Mb3 (Ic Mb5 In0)))), ?_⟩
      exact Ad<|Pu5<|Pu4<|Pu4<|Pu5<|Pu5<|Re5<|Sd<|⟨_, by exact R3, aH, be, rfl, rfl, H, bG⟩
     ·refine id (Jy Z ?_)
      have aW : RowR fM aQ [(fe (Result.mk n o p t s))] [(Result.mk n o p t s)] := RowR.cons rfl (RowR.nil)
      refine gh (T := fM) (rows := [(fe (Result.mk n o p t s))]) (l := [(Result.mk n o p t s)]) rfl rfl rfl aW rfl rfl rfl rfl rfl rfl rfl rfl (fun cD => ⟨(Ic Mb1 (Ic Mb3 (Ic Mb4 (Ic Mb6 In0)))), ?_⟩)
      refine gG 4 (by kernel_rfl) (Jyq Z (gv (v := (sv w)) rfl rfl rfl (Rb2 Z)) ⟨(Ic Mb1 (Ic Mb3 (Ic Mb4 (Ic Mb6 In0)))), ?_⟩)
      refine Ao 7 Z ?_
      have bJ := (aC.mono Q).mono X
      refine f6 (T := fM) (bytes := 40) (q := 0) rfl rfl rfl bJ Mb5 rfl (SrcT.row Mb0 aW rfl) a6 rfl rfl rfl rfl rfl rfl rfl rfl (fun aI b8 cu bI => ⟨_, (.there (.there (.there (.there (.there .here))))), ⟨(Ic Mb1 (Ic Mb3 (Ic Mb4 (Ic Mb6 In0)))), ?_⟩⟩)
      refine Aw.shift (Re0 (Sd ⟨(Ic Mb0 (Ic Mb2 (Ic Mb3 (Ic Mb5 In0)))), ?_⟩))
      refine Jq 8 Z (fD rfl)<|JF 9 5 Z<|?_
      refine Ao 10 Z ?_
      refine fm (vs := [(sv aI)]) (all' := [(sv f), (sv b), (sv a), (sv e), (sv u), (sv aI), (.bool p2), (.bool p3), (sv fB)]) rfl rfl rfl rfl rfl (.there .here) rfl rfl rfl ⟨(Ic Mb0 (Ic Mb2 (Ic Mb3 (Ic Mb5 In0)))), ?_⟩
      exact Ad<|Pu5<|Pu4<|Pu4<|Pu5<|Pu5<|Re5<|Sd<|⟨_, by exact R3, aI, be, rfl, rfl, H, bI⟩
    rintro _ b9 _ ao ⟨x, S, rfl, rfl, H, bF⟩
    unfold wv at H
    refine fc<|fa<|Em Z<|Eq Z (fD rfl)<|EF 2 Z<|El (sv a) Z (Rb0 Z)<|?_
    have a1 := ((R.mono Q).mono X).mono ao
    refine Eq Z (gp (T := io) a1 rfl rfl) ?_
    obtain ⟨b2, bX, H⟩ := bnd H
    refine ff rfl (jK (T := Ty.bool) (r := [(.bool false)]) rfl rfl rfl bX rfl rfl rfl rfl rfl rfl rfl rfl rfl rfl (fun O b1 bm cw => ?_))
    refine Ea Z<|fb<|?_
    refine fA (fun j c h => ∃ (af : ae1) (aG : List (List Value)), [(1, (sv b)), (9, (Vp d)), (10, (Vi i)), (13, (sv O))] = j ∧ (.blk d 76 [(sv f), (sv b), (sv a), (sv e), (sv u), (sv x), (.bool p2), (.bool p3), (sv fB)]) :: (.row (sv O) 4 1 aG.flatten) :: (.tok 38 5 [(sv x)]) :: (.tok 71 1 [(sv e)]) :: (.tok 4 1 [(sv u)]) :: (.tok 91 2 [(sv a)]) :: G = h ∧ wq p1 i p0 M J aw S p2 p3 ac af = some (y, z, A, B, C, D, E, F) ∧ RowR Ty.bool c aG af) ?_ ?_
    ·refine fc<|fa<|Ea Z<|fb<|fC<|?_
     refine ga (fun bb j c h => ∃ (U : ae1) (ag : List (List Value)) (I : Int), [(1, (sv b)), (9, (Vp d)), (10, (Vi i)), (13, (sv O)), (14, (Vi I))] = j ∧ (.blk d 76 [(sv f), (sv b), (sv a), (sv e), (sv u), (sv x), (.bool p2), (.bool p3), (sv fB)]) :: (.row (sv O) 4 1 ag.flatten) :: (.tok 38 5 [(sv x)]) :: (.tok 71 1 [(sv e)]) :: (.tok 4 1 [(sv u)]) :: (.tok 91 2 [(sv a)]) :: G = h ∧ lp2 (wu p1 i p0 M J aw S p2 p3 ac) bb U I = some (y, z, A, B, C, D, E, F) ∧ RowR Ty.bool c ag U) BIG ?_ ?_
     ·exact Pu5<|Pu5<|Pu5<|Pu5<|Pu4<|Pu5<|Sd<|⟨_, by exact R5, b2, b1, 0, rfl, rfl, H, bm⟩
     rintro bb _ ca _ aS ⟨U, ag, I, rfl, rfl, H, aX⟩
     obtain ⟨cz, cx, rfl, bu, H⟩ := jR H
     unfold wu at H
     refine fc<|fc<|fa<|Em Z<|Em Z<|Eq Z (fD rfl)<|EF 2 Z<|El (sv a) Z (Rb0 Z)<|?_
     have ab := a1.mono aS
     refine Eq Z (gp (T := io) ab rfl rfl)<|Ec Z<|fb<|?_
     refine fp rfl ?_ ?_
     ·intro W
      obtain ⟨W, H⟩ := It W H
      refine fy<|fc<|fC<|?_
      obtain ⟨bf, a7, H⟩ := bnd H
      obtain ⟨bg, a8, H⟩ := bnd H
      obtain ⟨P, bY, H⟩ := bnd H
      obtain ⟨cF, a9, H⟩ := bnd H
      refine fx _ rfl (Ic Mb0 (Ic Mb2 (Ic Mb3 (Ic Mb4 (Ic Mb5 In0)))))<|Jm 0 Z<|Jm 1 Z<|Jm 2 Z<|Jm 3 Z<|Jq 4 Z (fD rfl)<|JF 5 2 Z<|Jl 6 (sv a) Z (Rb0 Z)<|Jm 7 Z<|?_
      obtain ⟨_, rfl, br⟩ := Slr.at ab a7
      refine Jq 8 Z (Qi (T := io) ab a7 Z)<|JL 9 2 (iq bf) Z (Rdc.k br rfl)<|Jm 10 Z<|Jq 11 Z (fD rfl)<|JF 12 2 Z<|Jl 13 (sv a) Z (Rb0 Z)<|Jm 14 Z<|?_
      obtain ⟨_, rfl, bs⟩ := Slr.at ab a8
      refine Jq 15 Z (Qi (T := io) ab a8 Z)<|JL 16 2 (iq bg) Z (Rdc.k bs rfl)<|?_
      refine Ao 17 Z ?_
      have bK := (((((aa.mono Y).mono an).mono Q).mono X).mono ao).mono aS
      refine Ek Tryz.call35 Z (Dy p1 b bf bg P bY _ _ bK) ?_
      rintro _ cb _ bl ⟨rfl, rfl⟩
      refine ⟨(Ic Mb0 (Ic Mb2 (Ic Mb3 (Ic Mb4 (Ic Mb5 In0))))), ?_⟩
      have ap := aX.mono bl
      obtain ⟨cA, aB, bw⟩ := RowR.at ap a9
      obtain rfl := bw
      refine gG 18 (by kernel_rfl) (Jyq Z (gP (T := Ty.bool) Mb1 ap aB (fO a9).1 rfl rfl rfl rfl rfl) ⟨(Ic Mb0 (Ic Mb2 (Ic Mb3 (Ic Mb4 (Ic Mb5 In0))))), ?_⟩)
      refine Ao 19 Z ?_
      refine gW (T := Ty.bool) (vs := [(.bool P)]) (r' := [(.bool P)]) (l' := (fY U I P)) rfl rfl rfl rfl rfl (.there .here) ap aB rfl rfl rfl (RowR.set I ap rfl) (fun bo => ⟨(Ic Mb0 (Ic Mb2 (Ic Mb3 (Ic Mb4 (Ic Mb5 In0))))), ?_⟩)
      have cp := i6 aB (v := [(.bool P)])
      exact Ad<|fa<|Em Z<|Er (wI (I + 1)) Z<|Ea Z<|fb<|Pu5<|Pu5<|Pu5<|Pu5<|Pu5<|Pu5<|Sd<|⟨_, by exact R5, _, Nat.lt_succ_self _, (fY U I P), (ag.set I.toNat [(.bool P)]), (wI (I + 1)), rfl, rfl, (bu ▸ H), bo⟩
     ·intro W
      obtain ⟨W, H⟩ := If W H
      exact ge<|Pu5<|Pu5<|Pu5<|Pu5<|Pu5<|Pu5<|Sd<|⟨_, by exact R4, U, ag, rfl, rfl, H, aX⟩
    rintro _ cc _ ay ⟨af, aG, rfl, rfl, H, bn⟩
    unfold wq at H
    refine fa<|Em Z<|Em Z<|Eq Z (fD rfl)<|EF 3 Z<|El (sv e) Z (Rb0 Z)<|Em Z<|?_
    refine Ow.shift (Shift.settle (T := Ty.bool) (.there .here) bn rfl (fun bi az bL => Sd ?_))
    have aY : RowR (Ty.sl Ty.bool) bi [[(sv O)]] [af] := RowR.cons ⟨O, rfl, bL⟩ (RowR.nil)
    refine ff rfl (gh (T := (Ty.sl Ty.bool)) (rows := [[(sv O)]]) (l := [af]) rfl rfl rfl aY rfl rfl rfl rfl rfl rfl rfl rfl (fun cE => ?_))
    obtain ⟨b3, bZ, H⟩ := bnd H
    have bN := ((((aZ.mono Q).mono X).mono ao).mono ay).mono az
    refine ff rfl (f6 (T := (Ty.sl Ty.bool)) (bytes := 24) (q := 0) rfl rfl rfl bN Mb4 rfl (SrcT.row Mb0 aY rfl) bZ rfl rfl rfl rfl rfl rfl rfl rfl (fun aJ cd aT bM => ⟨_, (.there (.there (.there (.there .here)))), ?_⟩))
    refine Ow.shift (Re0 (Sd ?_))
    refine Eq Z (fD rfl)<|EF 3 Z<|?_
    refine ff rfl (fm (vs := [(sv aJ)]) (all' := [(sv f), (sv b), (sv a), (sv aJ), (sv u), (sv x), (.bool p2), (.bool p3), (sv fB)]) rfl rfl rfl rfl rfl .here rfl rfl rfl ?_)
    refine fb<|Pu5<|Pu3<|Pu5<|Pu5<|Pu4<|Re5<|?_
    have bO := (((bD.mono ao).mono ay).mono az).mono aT
    have bP := ((bF.mono ay).mono az).mono aT
    exact Sd ⟨_, by exact R3, aJ, b3, u, aw, x, S, rfl, rfl, H, bM, bO, bP⟩
   rintro _ ce _ cv ⟨ah, aq, ai, ar, aj, au, rfl, rfl, H, bx, bz, bA⟩
   unfold wo at H
   exact fa<|Em Z<|Er (wI (i + 1)) Z<|Ea Z<|fb<|Pu4<|Pu4<|Pu4<|Pu4<|Pu4<|Sd<|⟨_, by exact R3, _, Nat.lt_succ_self _, (wI (i + 1)), ah, aq, ai, ar, aj, au, rfl, rfl, (bt ▸ H), bx, bz, bA⟩
  ·intro V
   obtain ⟨V, H⟩ := If V H
   exact ge<|Pu4<|Pu4<|Pu4<|Pu4<|Pu4<|Sd<|⟨_, by exact R1, e, J, L, ad, w, ae, rfl, rfl, H, aZ, a0, aC⟩
 rintro _ cf _ aA ⟨ak, aD, al, aE, am, aF, rfl, rfl, H, bT, bU, bV⟩
 unfold wn at H
 refine fc<|fa<|Em Z<|Ea Z<|fb<|fz<|?_
 obtain ⟨ch, ci, cj, ck, cl, cm, cn, co⟩ := inj8 H
 subst y z A B C D E F
 refine ⟨(by first|exact .inl rfl|exact .inr rfl), [(Vp d)], ⟨(Vp d), _, rfl, rfl, rfl⟩, ?_⟩
 refine Pu3<|Pu3<|Pu3<|Pu4<|Pu4<|?_
 have bQ := (bv.mono Y).mono aA
 have bR := (aa.mono Y).mono aA
 have bS := a2.mono aA
 exact Sd ⟨d, f, b, a, ak, al, am, rfl, rfl, bQ, bR, bS, bT, bU, bV⟩
theorem nO (j : Nat) (F : ae4) (g : SV) (E : ad6) (s : SV) (D : ae5) (d : SV) (C : af4) (r : SV) (B : ae1) (p : SV) (I : ad5) (t : SV) (l : Bool) (n : Bool) (J : ad8) (h : SV) (o : List (List Value)) (p1 : Int) (e : Op) (H : nz F E D C B I l n J p1 = some e) (K : Kp) (G : List Ent) (u : Slr (Ty.sl hQ) K (sv g) F) (af : Slr f7 K (sv s) E) (f : Slr io K (sv d) D) (ae : Slr (Ty.sl Ty.bool) K (sv r) C) (ad : Slr Ty.bool K (sv p) B) (ag : Slr fM K (sv t) I) (ah : RowR Ty.str K o J) :
  Fc Tryz.prog 52 #[(Vp j), (Vi p1)] K ((.blk j 76 [(sv g), (sv s), (sv d), (sv r), (sv p), (sv t), (.bool l), (.bool n), (sv h)]) :: (.row (sv h) 9 1 o.flatten) :: G) (fun v i N => ∃ (L : SV) (M : SV), v = (.agg (fj e L M).toArray) ∧ K = i ∧ (.blk j 76 [(sv g), (sv s), (sv d), (sv r), (sv p), (sv t), (.bool l), (.bool n), (sv h)]) :: (.row (sv h) 9 1 o.flatten) :: G = N ∧ Slr fX i (sv L) e.cases ∧ Slr Ty.i64 i (sv M) e.draws) := by
 refine fN Tryz.func52 rfl Tryz.ntmps52 Tryz.results52 rfl ?_
 unfold nz at H
 refine fc<|fa<|?_
 refine ff rfl (fE (cs := (fj (Op.mk 0 0 0 0 0 [] []) fB fB)) rfl rfl rfl rfl (fun ab => ?_))
 refine fb<|fc<|?_
 obtain ⟨Y, x, H⟩ := bnd H
 obtain ⟨ak, y, H⟩ := bnd H
 obtain ⟨aa, z, H⟩ := bnd H
 obtain ⟨c, A, H⟩ := bnd H
 refine fx _ rfl (Ic Mb1 (Ic Mb2 In0))<|Jm 0 Z<|Jq 1 Z (fD rfl)<|JF 2 0 Z<|Jl 3 (sv g) Z (Rb0 Z)<|Jm 4 Z<|Jq 5 Z (fD rfl)<|JF 6 2 Z<|Jl 7 (sv d) Z (Rb0 Z)<|Jm 8 Z<|?_
 obtain ⟨_, rfl, O⟩ := Slr.at f x
 refine Jq 9 Z (Qi (T := io) f x Z)<|Jq 10 Z (iH (q := 0) (m := 0) rfl rfl rfl rfl rfl (by decide) rfl (by decide))<|Jl 11 (Vi Y.x0) Z (Rdc.k O rfl)<|?_
 obtain ⟨ai, S, P⟩ := Slr.at u y
 obtain ⟨X, rfl, w⟩ := S
 refine Jq 12 Z (Qi (T := (Ty.sl hQ)) u y Z)<|Jl 13 (sv X) Z (Rdc.k P rfl)<|Jm 14 Z<|Jq 15 Z (fD rfl)<|JF 16 2 Z<|Jl 17 (sv d) Z (Rb0 Z)<|Jm 18 Z<|?_
 obtain ⟨_, rfl, Q⟩ := Slr.at f z
 refine Jq 19 Z (Qi (T := io) f z Z)<|Jq 20 Z (iH (q := 1) (m := 1) rfl rfl rfl rfl rfl (by decide) rfl (by decide))<|Jl 21 (Vi aa.x1) Z (Rdc.k Q rfl)<|?_
 obtain ⟨aj, U, R⟩ := Slr.at w A
 obtain ⟨a, b, rfl, V, W⟩ := U
 refine Jq 22 Z (Qi (T := hQ) w A Z)<|JL 23 7 (fj c a b) Z (Rdc.k R rfl)<|?_
 refine Ao 24 Z ?_
 refine fm (vs := (fj c a b)) (all' := (fj c a b)) rfl rfl rfl rfl rfl .here rfl rfl rfl ⟨(Ic Mb1 (Ic Mb2 In0)), ?_⟩
 refine Ad<|fz<|?_
 obtain ac := gu H
 subst e
 refine ⟨(by first|exact .inl rfl|exact .inr rfl), [(.agg (fj c a b).toArray)], ⟨(.agg (fj c a b).toArray), _, rfl, ⟨_, 7, (fj c a b), rfl, rfl, rfl, rfl, ⟨rfl, Rb0 Z⟩, rfl⟩, rfl⟩, ?_⟩
 exact Pu2<|Pu2<|Re2<|Sd<|⟨a, b, rfl, rfl, rfl, V, W⟩
end Go.Hx
