
import Derived.Test.YtphoeijgpmlbpaaGreatDoorXYM
import Derived.Test.YtphoeijgpmlbpaaGreatDoorXYWModel4
import Derived.Test.YtphoeijgpmlbpaaGreatDoorXYWDraw
set_option linter.unusedVariables false
set_option linter.unusedSimpArgs false
namespace Go.Hx
open Go Go.Proofs
set_option maxRecDepth 10000
set_option maxHeartbeats 1000000
theorem DT (p0 : f7) (a b : SV) (p1 : Int) (p2 : Op) (c d : SV) (i : f7) (o : ad9) (p : Bool) (H : rK p0 p1 p2 = some (i, o, p)) (K : Kp) (G : List Ent) (h : Slr fH K (sv a) p0.chans) (s : Slr fJ K (sv b) p0.waiting) (I : Slr fW K (sv c) p2.cases) (J : Slr Ty.i64 K (sv d) p2.draws) :
  Fc Tryz.prog 24 #[(.agg (fk p0 a b).toArray), (Vi p1), (.agg (fj p2 c d).toArray)] K (G) (fun v g n => ∃ (bb bc aG : SV), v = (.tuple #[(.agg (fk i bb bc).toArray), (sv aG), (.bool p)]) ∧ (.tok 67 6 [(sv aG)]) :: G = n ∧ Slr fH g (sv bb) i.chans ∧ Slr fJ g (sv bc) i.waiting ∧ Slr fO g (sv aG) o) := by
 refine fN Tryz.func24 Z Tryz.ntmps24 Tryz.results24 Z ?_
 unfold rK at H
 refine fc<|fa<|?_
 refine fe Z (fU (cs := (fk p0 a b)) Z Z Z (fun u => ?_))
 refine fe Z (fU (cs := (fj p2 c d)) Z Z Z (fun F => ?_))
 refine fe Z (fD (cs := (fk (f7.mk [] [] 0) fB fB)) Z Z Z Z (fun r => ?_))
 refine Ea Z<|Ea Z<|fb<|fc<|fc<|fa<|EF 0 Z<|El (Vi p2.kind) Z (Rb1 Z)<|fb<|fA<|fc<|fa<|Ec Z<|Ea Z<|fb<|?_
 refine fm Z ?_ ?_
 ·intro Y
  obtain ⟨Y, H⟩ := It Y H
  refine fc<|fa<|EL 3 (fk p0 a b) Z (Rb2 Z)<|Em Z<|EL 7 (fj p2 c d) Z (Rb1 Z)<|?_
  obtain ⟨Q, cT, cJ, H⟩ := iw H
  refine fe Z (Ek Tryz.call41 Z (DN p0 a b p1 p2 c d Q cT cJ _ _ h s I J) ?_)
  rintro _ c1 _ dl ⟨N, O, aB, rfl, rfl, bG, bH, bI⟩
  refine Em Z<|Ex Z<|Ex Z<|?_
  refine fe Z (fD (cs := (fk (f7.mk [] [] 0) fB fB)) Z Z Z Z (fun di => ?_))
  refine fe Z (Sa (fk Q N O) Z .here Z ?_)
  refine Ea Z<|fb<|fc<|fa<|EL 3 (fk Q N O) Z (Rb0 Z)<|Em Z<|?_
  refine fe Z (Sa (fk Q N O) Z (.there (.there .here)) Z ?_)
  refine Ea Z<|Ea Z<|fb<|fx<|?_
  obtain ⟨V, W, X⟩ := jq H
  subst i o p
  refine ⟨(.inl Z), [(.agg (fk Q N O).toArray), (sv aB), (.bool false)], ⟨(.agg (fk Q N O).toArray), _, Z, ⟨_, 3, (fk Q N O), Z, Z, Z, Z, ⟨Z, Rb2 Z⟩, Z⟩, ⟨(sv aB), _, Z, Z, ⟨(.bool false), _, Z, Z, Z⟩⟩⟩, ?_⟩
  exact Pu1<|Re1<|Re1<|Re1<|Re1<|Sd<|⟨N, O, aB, Z, Z, bG, bH, bI⟩
 ·intro Y
  obtain ⟨Y, H⟩ := If Y H
  refine fz (fun t g n => ∃ (aw : Bool), [(1, (Vi p1)), (3, (Vp u)), (5, (Vp F)), (6, (Vp r)), (28, (.bool aw))] = t ∧ K = g ∧ (.blk r 60 (fk (f7.mk [] [] 0) fB fB)) :: (.blk F 51 (fj p2 c d)) :: (.blk u 60 (fk p0 a b)) :: G = n ∧ sZ p1 p2 p0 aw = some (i, o, p)) ?_ ?_
  ·refine fc<|fa<|Ec Z<|Ea Z<|fb<|?_
   refine fm Z ?_ ?_
   ·intro aa
    obtain ⟨aa, H⟩ := It aa H
    exact ft<|Pu2<|Pu2<|Pu2<|Sd<|⟨_, by exact R5, (dcd (p2.kind = 5)), Z, Z, Z, H⟩
   ·intro aa
    obtain ⟨aa, H⟩ := If aa H
    exact fa<|Ec Z<|Ea Z<|fb<|Pu2<|Pu2<|Pu2<|Sd<|⟨_, by exact R5, (dcd (p2.kind = 6)), Z, Z, Z, H⟩
  rintro _ _ _ - ⟨aw, rfl, rfl, rfl, H⟩
  unfold sZ at H
  refine fm Z ?_ ?_
  ·intro an
   have H := ift an H
   refine fc<|fa<|Ea Z<|fb<|?_
   refine fz (fun t g n => ∃ (y : Int), [(1, (Vi p1)), (3, (Vp u)), (6, (Vp r)), (11, (Vi y))] = t ∧ K = g ∧ (.blk r 60 (fk (f7.mk [] [] 0) fB fB)) :: (.blk u 60 (fk p0 a b)) :: G = n ∧ oG p1 p0 y = some (i, o, p)) ?_ ?_
   ·refine fz (fun t g n => ∃ (ax : Bool), [(1, (Vi p1)), (3, (Vp u)), (5, (Vp F)), (6, (Vp r)), (11, (Vi 0)), (41, (.bool ax))] = t ∧ K = g ∧ (.blk r 60 (fk (f7.mk [] [] 0) fB fB)) :: (.blk F 51 (fj p2 c d)) :: (.blk u 60 (fk p0 a b)) :: G = n ∧ rJ p1 p2 p0 ax = some (i, o, p)) ?_ ?_
    ·refine fa<|EF 2 Z<|El (Vi p2.channel) Z (Rb1 Z)<|Ec Z<|Em Z<|?_
     refine Ee Z ?_ ?_
     ·intro ab
      obtain ⟨ab, H⟩ := It ab H
      exact VF 2 Z<|Vl (Vi p2.channel) Z (Rb1 Z)<|VF 0 Z<|Vl (sv a) Z (Rb2 Z)<|Vq Z (ge (T := fH) h Z Z)<|Vc Z<|Et Z<|fb<|Pu2<|Pu2<|Pu2<|Sd<|⟨_, by exact R6, (dcd (p2.channel < (p0.chans.length : Int))), Z, Z, Z, H⟩
     ·intro ab
      obtain ⟨ab, H⟩ := If ab H
      exact Ez Z<|Ez Z<|Ez Z<|Ez Z<|Ez Z<|Ez Z<|Ef Z<|fb<|Pu2<|Pu2<|Pu2<|Sd<|⟨_, by exact R6, false, Z, Z, Z, H⟩
    rintro _ _ _ - ⟨ax, rfl, rfl, rfl, H⟩
    unfold rJ at H
    refine fm Z ?_ ?_
    ·intro ao
     have H := ift ao H
     refine fc<|fa<|EF 0 Z<|El (sv a) Z (Rb2 Z)<|EF 2 Z<|El (Vi p2.channel) Z (Rb1 Z)<|?_
     obtain ⟨cU, aX, H⟩ := bnd H
     obtain ⟨dx, bv, bq⟩ := Slr.at h aX
     obtain ⟨cN, rfl, bJ⟩ := bv
     refine Eq Z (Qi (T := fH) h aX Z)<|EF 1 Z<|El (sv cN) Z (Rdc.k bq Z)<|Eq Z (ge (T := Ty.u64) bJ Z Z)<|Ea Z<|fb<|fc<|fa<|EF 0 Z<|El (Vi p2.kind) Z (Rb1 Z)<|Ec Z<|fb<|?_
     refine fm Z ?_ ?_
     ·intro ac
      obtain ⟨ac, H⟩ := It ac H
      refine fa<|EF 0 Z<|El (sv a) Z (Rb2 Z)<|EF 2 Z<|El (Vi p2.channel) Z (Rb1 Z)<|?_
      obtain ⟨bd, aY, H⟩ := bnd H
      obtain ⟨dy, bw, br⟩ := Slr.at h aY
      obtain ⟨dB, rfl, dw⟩ := bw
      exact Eq Z (Qi (T := fH) h aY Z)<|EF 0 Z<|El (Vi bd.capacity) Z (Rdc.k br Z)<|Ea Z<|fb<|Pu2<|Pu1<|Re2<|Sd<|⟨_, by exact R4, bd.capacity, Z, Z, Z, H⟩
     ·intro ac
      obtain ⟨ac, H⟩ := If ac H
      exact ft<|Pu2<|Pu1<|Re2<|Sd<|⟨_, by exact R4, (cU.buffer.length : Int), Z, Z, Z, H⟩
    ·intro ao
     have H := f0 (btf ao) H
     exact ft<|Pu2<|Pu1<|Re2<|Sd<|⟨_, by exact R4, 0, Z, Z, Z, H⟩
   rintro _ _ _ - ⟨y, rfl, rfl, rfl, H⟩
   unfold oG at H
   refine fc<|fa<|EL 3 (fk p0 a b) Z (Rb1 Z)<|Em Z<|Em Z<|Eq Z (fG (cs := (ff (Result.mk 7 (-1) 0 false y))) Z Z Z Z Z Z)<|Eq Z (fG (cs := (fF (Done.mk p1 (Result.mk 7 (-1) 0 false y)))) Z Z Z Z Z Z)<|?_
   have aN : RowR fO K [(fF (Done.mk p1 (Result.mk 7 (-1) 0 false y)))] [(Done.mk p1 (Result.mk 7 (-1) 0 false y))] := RowR.cons Z (RowR.nil)
   refine fe Z (gh (T := fO) (rows := [(fF (Done.mk p1 (Result.mk 7 (-1) 0 false y)))]) (l := [(Done.mk p1 (Result.mk 7 (-1) 0 false y))]) Z Z Z aN Z Z Z Z Z Z Z Z (fun aC => ?_))
   refine fe Z (Sa (fk p0 a b) Z (.there .here) Z ?_)
   refine Ea Z<|Ea Z<|fb<|fx<|?_
   obtain ⟨V, W, X⟩ := jq H
   subst i o p
   refine ⟨(.inl Z), [(.agg (fk p0 a b).toArray), (sv aC), (.bool false)], ⟨(.agg (fk p0 a b).toArray), _, Z, ⟨_, 3, (fk p0 a b), Z, Z, Z, Z, ⟨Z, Rb1 Z⟩, Z⟩, ⟨(sv aC), _, Z, Z, ⟨(.bool false), _, Z, Z, Z⟩⟩⟩, ?_⟩
   refine Shift.settle (T := fO) .here aN Z ?_
   intro c2 aH bK
   refine Re1<|Re1<|?_
   have bL := h.mono aH
   have bM := s.mono aH
   exact Sd ⟨a, b, aC, Z, Z, bL, bM, bK⟩
  ·intro an
   have H := f0 (btf an) H
   refine ft<|fc<|fa<|Ea Z<|fb<|?_
   refine fz (fun t g n => ∃ (L : Int), [(1, (Vi p1)), (3, (Vp u)), (5, (Vp F)), (6, (Vp r)), (12, (Vi L))] = t ∧ (.blk r 60 (fk (f7.mk [] [] 0) fB fB)) :: (.blk F 51 (fj p2 c d)) :: (.blk u 60 (fk p0 a b)) :: G = n ∧ sY p1 p2 p0 L = some (i, o, p)) ?_ ?_
   ·refine fc<|fa<|EF 0 Z<|El (Vi p2.kind) Z (Rb1 Z)<|Ec Z<|fb<|?_
    refine fm Z ?_ ?_
    ·intro ad
     obtain ⟨ad, H⟩ := It ad H
     refine fa<|EL 3 (fk p0 a b) Z (Rb2 Z)<|Em Z<|EL 7 (fj p2 c d) Z (Rb1 Z)<|?_
     obtain ⟨be, cK, H⟩ := bnd H
     refine fe Z (Ek Tryz.call42 Z (DR p0 a b p1 p2 c d be cK _ _ h s I J) ?_)
     rintro _ c3 _ dm ⟨rfl, rfl⟩
     exact Ea Z<|fb<|Pu2<|Pu2<|Pu2<|Sd<|⟨_, by exact R5, be, Z, Z, H⟩
    ·intro ad
     obtain ⟨ad, H⟩ := If ad H
     refine fc ?_
     obtain ⟨cV, cL, H⟩ := bnd H
     obtain ⟨bf, aZ, H⟩ := bnd H
     obtain ⟨cW, cM, H⟩ := bnd H
     refine fw _ Z (Ic Mb0 (Ic Mb1 (Ic Mb2 In0)))<|JL 0 3 (fk p0 a b) Z (Rb2 Z)<|Jm 1 Z<|JL 2 7 (fj p2 c d) Z (Rb1 Z)<|?_
     refine Ao 3 Z ?_
     refine Ek Tryz.call44 Z (ln p2 c d cV cL _ _ I J) ?_
     rintro _ c4 _ aI ⟨dC, rfl, rfl, aT⟩
     refine ⟨(Ic Mb0 (Ic Mb1 (Ic Mb2 In0))), ?_⟩
     obtain ⟨_, rfl, bs⟩ := Slr.at aT aZ
     refine gB 4 (by kernel_rfl) (Jyq Z (Qi (T := fW) aT aZ Z) ⟨(Ic Mb0 (Ic Mb1 (Ic Mb2 In0))), ?_⟩)
     refine gB 5 (by kernel_rfl) (Jyq Z (jj (m := 3) (cs := (fl bf)) Z Z Z Z ⟨Z, Rdc.k bs Z⟩) ⟨(Ic Mb0 (Ic Mb1 (Ic Mb2 In0))), ?_⟩)
     refine Ao 6 Z ?_
     have bN := h.mono aI
     have bO := s.mono aI
     refine Ek Tryz.call43 Z (yO p0 a b p1 bf cW cM _ _ bN bO) ?_
     rintro _ c5 _ dn ⟨rfl, rfl⟩
     refine ⟨(Ic Mb0 (Ic Mb1 (Ic Mb2 In0))), ?_⟩
     refine Ad ?_
     refine fm Z ?_ ?_
     ·intro ap
      have H := ift ap H
      exact fa<|Ea Z<|fb<|Pu2<|Pu2<|Pu2<|Sd<|⟨_, by exact R5, 0, Z, Z, H⟩
     ·intro ap
      have H := f0 (btf ap) H
      exact ft<|Pu2<|Pu2<|Pu2<|Sd<|⟨_, by exact R5, (-1), Z, Z, H⟩
   rintro _ U _ e ⟨L, rfl, rfl, H⟩
   unfold sY at H
   refine fc<|fc<|fa<|Em Z<|Ec Z<|fb<|?_
   refine fm Z ?_ ?_
   ·intro ae
    obtain ⟨ae, H⟩ := It ae H
    refine fz (fun t g n => ∃ (am : Nat) (P : SV) (av : ad9) (C : SV) (z : ad1) (D : SV) (A : ae0) (M : Int), [(6, (Vp r)), (13, (Vp am)), (14, (sv P))] = t ∧ (.blk am 60 (fk (f7.mk z A M) C D)) :: (.blk r 60 (fk (f7.mk [] [] 0) fB fB)) :: (.tok 67 6 [(sv P)]) :: G = n ∧ zZ av z A M = some (i, o, p) ∧ Slr fO g (sv P) av ∧ Slr fH g (sv C) z ∧ Slr fJ g (sv D) A) ?_ ?_
    ·obtain ⟨bg, a0, H⟩ := bnd H
     obtain ⟨E, R, H⟩ := bnd H
     obtain ⟨f, x, aj, H⟩ := iw H
     refine fw _ Z (Ic Mb0 (Ic Mb1 (Ic Mb2 In0)))<|JL 0 3 (fk p0 a b) Z (Rb2 Z)<|Jm 1 Z<|JL 2 7 (fj p2 c d) Z (Rb1 Z)<|Jm 3 Z<|JL 4 7 (fj p2 c d) Z (Rb1 Z)<|Jm 6 Z<|?_
     refine gW 5 13 (by kernel_rfl) ?_ ?_
     ·refine id (Jy Z ?_)
      have ah := I.mono e
      have ai := J.mono e
      refine Ek Tryz.call44 Z (ln p2 c d bg a0 _ _ ah ai) ?_
      rintro _ c6 _ j ⟨dD, rfl, rfl, al⟩
      refine ⟨(Ic Mb0 (Ic Mb1 (Ic Mb2 In0))), ?_⟩
      refine gW 7 13 (by kernel_rfl) ?_ ?_
      ·obtain ⟨_, rfl, aS⟩ := Slr.at al R
       refine id (Jyq Z (Qi (T := fW) al R Z) ⟨(Ic Mb0 (Ic Mb1 (Ic Mb2 In0))), ?_⟩)
       refine gW 8 13 (by kernel_rfl) ?_ ?_
       ·refine id (Jyq Z (jj (m := 3) (cs := (fl E)) Z Z Z Z ⟨Z, Rdc.k aS Z⟩) ⟨(Ic Mb0 (Ic Mb1 (Ic Mb2 In0))), ?_⟩)
        refine gW 9 13 (by kernel_rfl) ?_ ?_
        ·refine id (Jy Z ?_)
         have bS := (h.mono e).mono j
         have bT := (s.mono e).mono j
         have bU := ah.mono j
         have bV := ai.mono j
         refine Ek Tryz.call45 Z (lI p0 a b p1 p2 c d L E f x aj _ _ bS bT bU bV) ?_
         rintro _ c7 _ dp ⟨a1, a2, cO, rfl, rfl, bW, bX, bY⟩
         refine ⟨(Ic Mb1 (Ic Mb2 (Ic Mb3 In0))), ?_⟩
         refine Jm 10 Z<|Jx 11 Z<|Jx 12 Z<|?_
         refine Ao 13 Z ?_
         refine fD (cs := (fk (f7.mk [] [] 0) fB fB)) Z Z Z Z (fun bi => ⟨(Ic Mb2 (Ic Mb3 (Ic Mb4 In0))), ?_⟩)
         refine Ao 14 Z ?_
         refine Sa (fk f a1 a2) Z .here Z ⟨(Ic Mb2 (Ic Mb3 (Ic Mb4 In0))), ?_⟩
         exact Ja 15 Z<|Ad<|Pu1<|Pu2<|Pu2<|Re3<|Re3<|Sd<|⟨_, by exact R3, bi, cO, x, a1, f.chans, a2, f.waiting, f.tick, Z, Z, H, bY, bW, bX⟩
        ·refine id (Jy Z ?_)
         refine fD (cs := (fk (f7.mk [] [] 0) fB fB)) Z Z Z Z (fun bj => ⟨(Ic Mb1 (Ic Mb2 (Ic Mb3 In0))), ?_⟩)
         refine Ao 9 Z ?_
         have bZ := (h.mono e).mono j
         have b0 := (s.mono e).mono j
         have b1 := ah.mono j
         have b2 := ai.mono j
         refine Ek Tryz.call45 Z (lI p0 a b p1 p2 c d L E f x aj _ _ bZ b0 b1 b2) ?_
         rintro _ c8 _ dq ⟨a3, a4, cP, rfl, rfl, b3, b4, b5⟩
         refine ⟨(Ic Mb2 (Ic Mb3 (Ic Mb4 In0))), ?_⟩
         refine Jm 10 Z<|Jx 11 Z<|Jx 12 Z<|?_
         refine Ao 14 Z ?_
         refine Sa (fk f a3 a4) Z (.there .here) Z ⟨(Ic Mb2 (Ic Mb3 (Ic Mb4 In0))), ?_⟩
         exact Ja 15 Z<|Ad<|Pu2<|Pu2<|Re3<|Re3<|Sd<|⟨_, by exact R3, bj, cP, x, a3, f.chans, a4, f.waiting, f.tick, Z, Z, H, b5, b3, b4⟩
       ·refine id (Jy Z ?_)
        refine fD (cs := (fk (f7.mk [] [] 0) fB fB)) Z Z Z Z (fun bk => ⟨(Ic Mb1 (Ic Mb2 (Ic Mb3 In0))), ?_⟩)
        refine gB 8 (by kernel_rfl) (Jyq Z (jj (m := 3) (cs := (fl E)) Z Z Z Z ⟨Z, Rdc.k aS Z⟩) ⟨(Ic Mb1 (Ic Mb2 (Ic Mb3 In0))), ?_⟩)
        refine Ao 9 Z ?_
        have b6 := (h.mono e).mono j
        have b7 := (s.mono e).mono j
        have b8 := ah.mono j
        have b9 := ai.mono j
        refine Ek Tryz.call45 Z (lI p0 a b p1 p2 c d L E f x aj _ _ b6 b7 b8 b9) ?_
        rintro _ c9 _ dr ⟨a5, a6, cQ, rfl, rfl, ca, cb, cc⟩
        refine ⟨(Ic Mb2 (Ic Mb3 (Ic Mb4 In0))), ?_⟩
        refine Jm 10 Z<|Jx 11 Z<|Jx 12 Z<|?_
        refine Ao 14 Z ?_
        refine Sa (fk f a5 a6) Z (.there .here) Z ⟨(Ic Mb2 (Ic Mb3 (Ic Mb4 In0))), ?_⟩
        exact Ja 15 Z<|Ad<|Pu2<|Pu2<|Re3<|Re3<|Sd<|⟨_, by exact R3, bk, cQ, x, a5, f.chans, a6, f.waiting, f.tick, Z, Z, H, cc, ca, cb⟩
      ·refine id (Jy Z ?_)
       refine fD (cs := (fk (f7.mk [] [] 0) fB fB)) Z Z Z Z (fun bl => ⟨(Ic Mb1 (Ic Mb2 (Ic Mb3 In0))), ?_⟩)
       obtain ⟨_, rfl, bt⟩ := Slr.at al R
       refine gB 7 (by kernel_rfl) (Jyq Z (Qi (T := fW) al R Z) ⟨(Ic Mb1 (Ic Mb2 (Ic Mb3 In0))), ?_⟩)
       refine gB 8 (by kernel_rfl) (Jyq Z (jj (m := 3) (cs := (fl E)) Z Z Z Z ⟨Z, Rdc.k bt Z⟩) ⟨(Ic Mb1 (Ic Mb2 (Ic Mb3 In0))), ?_⟩)
       refine Ao 9 Z ?_
       have cd := (h.mono e).mono j
       have ce := (s.mono e).mono j
       have cf := ah.mono j
       have cg := ai.mono j
       refine Ek Tryz.call45 Z (lI p0 a b p1 p2 c d L E f x aj _ _ cd ce cf cg) ?_
       rintro _ da _ ds ⟨a7, a8, cR, rfl, rfl, ch, ci, cj⟩
       refine ⟨(Ic Mb2 (Ic Mb3 (Ic Mb4 In0))), ?_⟩
       refine Jm 10 Z<|Jx 11 Z<|Jx 12 Z<|?_
       refine Ao 14 Z ?_
       refine Sa (fk f a7 a8) Z (.there .here) Z ⟨(Ic Mb2 (Ic Mb3 (Ic Mb4 In0))), ?_⟩
       exact Ja 15 Z<|Ad<|Pu2<|Pu2<|Re3<|Re3<|Sd<|⟨_, by exact R3, bl, cR, x, a7, f.chans, a8, f.waiting, f.tick, Z, Z, H, cj, ch, ci⟩
     ·refine id (Jy Z ?_)
      refine fD (cs := (fk (f7.mk [] [] 0) fB fB)) Z Z Z Z (fun bm => ⟨(Ic Mb1 (Ic Mb2 (Ic Mb3 In0))), ?_⟩)
      refine Ao 5 Z ?_
      have aU := I.mono e
      have aV := J.mono e
      refine Ek Tryz.call44 Z (ln p2 c d bg a0 _ _ aU aV) ?_
      rintro _ db _ ak ⟨dE, rfl, rfl, aW⟩
      refine ⟨(Ic Mb1 (Ic Mb2 (Ic Mb3 In0))), ?_⟩
      obtain ⟨_, rfl, bu⟩ := Slr.at aW R
      refine gB 7 (by kernel_rfl) (Jyq Z (Qi (T := fW) aW R Z) ⟨(Ic Mb1 (Ic Mb2 (Ic Mb3 In0))), ?_⟩)
      refine gB 8 (by kernel_rfl) (Jyq Z (jj (m := 3) (cs := (fl E)) Z Z Z Z ⟨Z, Rdc.k bu Z⟩) ⟨(Ic Mb1 (Ic Mb2 (Ic Mb3 In0))), ?_⟩)
      refine Ao 9 Z ?_
      have ck := (h.mono e).mono ak
      have cl := (s.mono e).mono ak
      have cm := aU.mono ak
      have cn := aV.mono ak
      refine Ek Tryz.call45 Z (lI p0 a b p1 p2 c d L E f x aj _ _ ck cl cm cn) ?_
      rintro _ dc _ dt ⟨a9, ba, cS, rfl, rfl, co, cp, cq⟩
      refine ⟨(Ic Mb2 (Ic Mb3 (Ic Mb4 In0))), ?_⟩
      refine Jm 10 Z<|Jx 11 Z<|Jx 12 Z<|?_
      refine Ao 14 Z ?_
      refine Sa (fk f a9 ba) Z (.there .here) Z ⟨(Ic Mb2 (Ic Mb3 (Ic Mb4 In0))), ?_⟩
      exact Ja 15 Z<|Ad<|Pu2<|Pu2<|Re3<|Re3<|Sd<|⟨_, by exact R3, bm, cS, x, a9, f.chans, ba, f.waiting, f.tick, Z, Z, H, cq, co, cp⟩
    rintro _ dd _ du ⟨am, P, av, C, z, D, A, M, rfl, rfl, H, bP, bQ, bR⟩
    unfold zZ at H
    refine fc<|fa<|EL 3 (fk (f7.mk z A M) C D) Z (Rb0 Z)<|Em Z<|?_
    refine fe Z (Sa (fk (f7.mk z A M) C D) Z (.there .here) Z ?_)
    refine Ea Z<|Ea Z<|fb<|fx<|?_
    obtain ⟨V, W, X⟩ := jq H
    subst i o p
    refine ⟨(.inl Z), [(.agg (fk (f7.mk z A M) C D).toArray), (sv P), (.bool false)], ⟨(.agg (fk (f7.mk z A M) C D).toArray), _, Z, ⟨_, 3, (fk (f7.mk z A M) C D), Z, Z, Z, Z, ⟨Z, Rb1 Z⟩, Z⟩, ⟨(sv P), _, Z, Z, ⟨(.bool false), _, Z, Z, Z⟩⟩⟩, ?_⟩
    exact Pu2<|Re1<|Re1<|Sd<|⟨C, D, P, Z, Z, bQ, bR, bP⟩
   ·intro ae
    obtain ⟨ae, H⟩ := If ae H
    refine ft<|fc<|fc<|fa<|EF 1 Z<|El (Vi p2.mode) Z (Rb1 Z)<|Ec Z<|fb<|?_
    refine fm Z ?_ ?_
    ·intro af
     obtain ⟨af, H⟩ := It af H
     refine fc<|fa<|EL 3 (fk p0 a b) Z (Rb2 Z)<|Em Z<|Eq Z (fG (cs := (ff (Result.mk 3 (-1) 0 false 0))) Z Z Z Z Z Z)<|Eq Z (fG (cs := (fF (Done.mk p1 (Result.mk 3 (-1) 0 false 0)))) Z Z Z Z Z Z)<|?_
     have aO : RowR fO U [(fF (Done.mk p1 (Result.mk 3 (-1) 0 false 0)))] [(Done.mk p1 (Result.mk 3 (-1) 0 false 0))] := RowR.cons Z (RowR.nil)
     refine fe Z (gh (T := fO) (rows := [(fF (Done.mk p1 (Result.mk 3 (-1) 0 false 0)))]) (l := [(Done.mk p1 (Result.mk 3 (-1) 0 false 0))]) Z Z Z aO Z Z Z Z Z Z Z Z (fun aD => ?_))
     refine fe Z (Sa (fk p0 a b) Z (.there .here) Z ?_)
     refine Ea Z<|Ea Z<|fb<|fx<|?_
     obtain ⟨V, W, X⟩ := jq H
     subst i o p
     refine ⟨(.inl Z), [(.agg (fk p0 a b).toArray), (sv aD), (.bool false)], ⟨(.agg (fk p0 a b).toArray), _, Z, ⟨_, 3, (fk p0 a b), Z, Z, Z, Z, ⟨Z, Rb1 Z⟩, Z⟩, ⟨(sv aD), _, Z, Z, ⟨(.bool false), _, Z, Z, Z⟩⟩⟩, ?_⟩
     refine Shift.settle (T := fO) .here aO Z ?_
     intro de aJ cr
     refine Re1<|Re1<|Re1<|?_
     have ct := (h.mono e).mono aJ
     have cu := (s.mono e).mono aJ
     exact Sd ⟨a, b, aD, Z, Z, ct, cu, cr⟩
    ·intro af
     obtain ⟨af, H⟩ := If af H
     refine ft<|fc<|?_
     refine fz (fun t g n => ∃ (ay : Bool), [(1, (Vi p1)), (3, (Vp u)), (5, (Vp F)), (6, (Vp r)), (114, (.bool ay))] = t ∧ U = g ∧ (.blk r 60 (fk (f7.mk [] [] 0) fB fB)) :: (.blk F 51 (fj p2 c d)) :: (.blk u 60 (fk p0 a b)) :: G = n ∧ oH p1 p2 p0 ay = some (i, o, p)) ?_ ?_
     ·refine fa<|EF 1 Z<|El (Vi p2.mode) Z (Rb1 Z)<|Ec Z<|Em Z<|?_
      refine Ee Z ?_ ?_
      ·intro ag
       obtain ⟨ag, H⟩ := It ag H
       exact VF 4 Z<|Vl (Vi p2.deadline) Z (Rb1 Z)<|VF 2 Z<|Vl (Vi p0.tick) Z (Rb2 Z)<|Vc Z<|Et Z<|fb<|Pu2<|Pu2<|Pu2<|Sd<|⟨_, by exact R5, (dcd (p2.deadline ≤ p0.tick)), Z, Z, Z, H⟩
      ·intro ag
       obtain ⟨ag, H⟩ := If ag H
       exact Ez Z<|Ez Z<|Ez Z<|Ez Z<|Ez Z<|Ef Z<|fb<|Pu2<|Pu2<|Pu2<|Sd<|⟨_, by exact R5, false, Z, Z, Z, H⟩
     rintro _ _ _ - ⟨ay, rfl, rfl, rfl, H⟩
     unfold oH at H
     refine fm Z ?_ ?_
     ·intro aq
      have H := ift aq H
      refine fc<|fa<|EL 3 (fk p0 a b) Z (Rb2 Z)<|Em Z<|Eq Z (fG (cs := (ff (Result.mk 4 (-1) 0 false 0))) Z Z Z Z Z Z)<|Eq Z (fG (cs := (fF (Done.mk p1 (Result.mk 4 (-1) 0 false 0)))) Z Z Z Z Z Z)<|?_
      have aP : RowR fO U [(fF (Done.mk p1 (Result.mk 4 (-1) 0 false 0)))] [(Done.mk p1 (Result.mk 4 (-1) 0 false 0))] := RowR.cons Z (RowR.nil)
      refine fe Z (gh (T := fO) (rows := [(fF (Done.mk p1 (Result.mk 4 (-1) 0 false 0)))]) (l := [(Done.mk p1 (Result.mk 4 (-1) 0 false 0))]) Z Z Z aP Z Z Z Z Z Z Z Z (fun aE => ?_))
      refine fe Z (Sa (fk p0 a b) Z (.there .here) Z ?_)
      refine Ea Z<|Ea Z<|fb<|fx<|?_
      obtain ⟨V, W, X⟩ := jq H
      subst i o p
      refine ⟨(.inl Z), [(.agg (fk p0 a b).toArray), (sv aE), (.bool false)], ⟨(.agg (fk p0 a b).toArray), _, Z, ⟨_, 3, (fk p0 a b), Z, Z, Z, Z, ⟨Z, Rb1 Z⟩, Z⟩, ⟨(sv aE), _, Z, Z, ⟨(.bool false), _, Z, Z, Z⟩⟩⟩, ?_⟩
      refine Shift.settle (T := fO) .here aP Z ?_
      intro df aK cv
      refine Re1<|Re1<|Re1<|?_
      have cw := (h.mono e).mono aK
      have cx := (s.mono e).mono aK
      exact Sd ⟨a, b, aE, Z, Z, cw, cx, cv⟩
     ·intro aq
      have H := f0 (btf aq) H
      refine ft ?_
      refine fz (fun t g n => ∃ (w : SV) (B : ae0), [(3, (Vp u)), (6, (Vp r))] = t ∧ (.blk r 60 (fk (f7.mk [] [] 0) fB fB)) :: (.blk u 60 (fk (f7.mk p0.chans B p0.tick) a w)) :: (.tok 96 8 [(sv w)]) :: G = n ∧ Aa p0 B = some (i, o, p) ∧ Slr fJ g (sv w) B) ?_ ?_
      ·obtain ⟨dJ, ar, H⟩ := bnd H
       obtain ⟨S, au, H⟩ := bnd H
       refine fw _ Z (Ic Mb0 (Ic Mb1 In0))<|JF 0 1 Z<|Jm 3 Z<|JL 4 7 (fj p2 c d) Z (Rb1 Z)<|Jq 5 Z (fG (cs := (f9 (gd.mk p1 p2) c d)) Z Z Z Z Z Z)<|?_
       refine gW 1 6 (by kernel_rfl) ?_ ?_
       ·refine id (Jyq Z (gr (v := (sv b)) Z Z Z (Rb2 Z)) ⟨(Ic Mb0 (Ic Mb1 In0)), ?_⟩)
        refine gW 2 6 (by kernel_rfl) ?_ ?_
        ·refine id (Jy Z ?_)
         refine OpW.shift (Shift.nilTok1 96 8 (Sd ?_))
         have cz := s.mono e
         refine f8 (T := fJ) (bytes := 96) (q := 0) Z Z Z (Slr.nil fJ _) Mb0 Z (SrcT.sl cz) ar Z Z Z Z Z Z Z Z (fun dF bh aL cA => ⟨_, .here, ⟨(Ic Mb1 (Ic Mb2 In0)), ?_⟩⟩)
         refine Ao 6 Z ?_
         have cB := (I.mono e).mono aL
         have cC := (J.mono e).mono aL
         have aQ : RowR fJ bh [(f9 (gd.mk p1 p2) c d)] [(gd.mk p1 p2)] := RowR.cons ⟨c, d, Z, cB, cC⟩ (RowR.nil)
         refine gh (T := fJ) (rows := [(f9 (gd.mk p1 p2) c d)]) (l := [(gd.mk p1 p2)]) Z Z Z aQ Z Z Z Z Z Z Z Z (fun dG => ⟨(Ic Mb2 (Ic Mb3 In0)), ?_⟩)
         refine Ao 7 Z ?_
         refine f8 (T := fJ) (bytes := 96) (q := 0) Z Z Z cA Mb1 Z (SrcT.row Mb0 aQ Z) au Z Z Z Z Z Z Z Z (fun aF dg dv cD => ⟨_, (.there .here), ⟨(Ic Mb2 (Ic Mb3 In0)), ?_⟩⟩)
         refine Aw.shift (Re0 (Sd ⟨(Ic Mb1 (Ic Mb2 In0)), ?_⟩))
         refine JF 8 1 Z ?_
         refine Ao 9 Z ?_
         refine So [(sv aF)] (fk (f7.mk p0.chans S p0.tick) a aF) Z (.there (.there (.there .here))) Z ⟨(Ic Mb1 (Ic Mb2 In0)), ?_⟩
         exact Ad<|Pu3<|Pu2<|Re3<|Sd<|⟨_, by exact R2, aF, S, Z, Z, H, cD⟩
        ·refine id (Jy Z ?_)
         have cE := I.mono e
         have cF := J.mono e
         have aR : RowR fJ U [(f9 (gd.mk p1 p2) c d)] [(gd.mk p1 p2)] := RowR.cons ⟨c, d, Z, cE, cF⟩ (RowR.nil)
         refine gh (T := fJ) (rows := [(f9 (gd.mk p1 p2) c d)]) (l := [(gd.mk p1 p2)]) Z Z Z aR Z Z Z Z Z Z Z Z (fun dH => ⟨(Ic Mb1 (Ic Mb2 In0)), ?_⟩)
         refine Ao 2 Z ?_
         refine OpW.shift (Shift.nilTok1 96 8 (Sd ?_))
         have cG := s.mono e
         refine f8 (T := fJ) (bytes := 96) (q := 0) Z Z Z (Slr.nil fJ _) Mb0 Z (SrcT.sl cG) ar Z Z Z Z Z Z Z Z (fun dI dh bp cH => ⟨_, .here, ⟨(Ic Mb2 (Ic Mb3 In0)), ?_⟩⟩)
         refine Ao 7 Z ?_
         have cI := aR.mono bp
         refine f8 (T := fJ) (bytes := 96) (q := 0) Z Z Z cH Mb0 Z (SrcT.row Mb1 cI Z) au Z Z Z Z Z Z Z Z (fun az cX dj bx => ⟨_, .here, ⟨(Ic Mb2 (Ic Mb3 In0)), ?_⟩⟩)
         refine Aw.shift (Re1 (Sd ⟨(Ic Mb1 (Ic Mb2 In0)), ?_⟩))
         refine JF 8 1 Z ?_
         refine Ao 9 Z ?_
         refine So [(sv az)] (fk (f7.mk p0.chans S p0.tick) a az) Z (.there (.there (.there .here))) Z ⟨(Ic Mb1 (Ic Mb2 In0)), ?_⟩
         exact Ad<|Pu3<|Pu2<|Re3<|Sd<|⟨_, by exact R2, az, S, Z, Z, H, bx⟩
       ·refine id (Jy Z ?_)
        have bz := I.mono e
        have bA := J.mono e
        have aM : RowR fJ U [(f9 (gd.mk p1 p2) c d)] [(gd.mk p1 p2)] := RowR.cons ⟨c, d, Z, bz, bA⟩ (RowR.nil)
        refine gh (T := fJ) (rows := [(f9 (gd.mk p1 p2) c d)]) (l := [(gd.mk p1 p2)]) Z Z Z aM Z Z Z Z Z Z Z Z (fun dz => ⟨(Ic Mb1 (Ic Mb2 In0)), ?_⟩)
        refine gB 1 (by kernel_rfl) (Jyq Z (gr (v := (sv b)) Z Z Z (Rb3 Z)) ⟨(Ic Mb1 (Ic Mb2 In0)), ?_⟩)
        refine Ao 2 Z ?_
        refine OpW.shift (Shift.nilTok1 96 8 (Sd ?_))
        have bB := s.mono e
        refine f8 (T := fJ) (bytes := 96) (q := 0) Z Z Z (Slr.nil fJ _) Mb0 Z (SrcT.sl bB) ar Z Z Z Z Z Z Z Z (fun dA cY bn bC => ⟨_, .here, ⟨(Ic Mb2 (Ic Mb3 In0)), ?_⟩⟩)
        refine Ao 7 Z ?_
        have bD := aM.mono bn
        refine f8 (T := fJ) (bytes := 96) (q := 0) Z Z Z bC Mb0 Z (SrcT.row Mb1 bD Z) au Z Z Z Z Z Z Z Z (fun aA cZ dk bE => ⟨_, .here, ⟨(Ic Mb2 (Ic Mb3 In0)), ?_⟩⟩)
        refine Aw.shift (Re1 (Sd ⟨(Ic Mb1 (Ic Mb2 In0)), ?_⟩))
        refine JF 8 1 Z ?_
        refine Ao 9 Z ?_
        refine So [(sv aA)] (fk (f7.mk p0.chans S p0.tick) a aA) Z (.there (.there (.there .here))) Z ⟨(Ic Mb1 (Ic Mb2 In0)), ?_⟩
        exact Ad<|Pu3<|Pu2<|Re3<|Sd<|⟨_, by exact R2, aA, S, Z, Z, H, bE⟩
      rintro _ c0 _ bo ⟨w, B, rfl, rfl, H, cy⟩
      unfold Aa at H
      refine fc<|fa<|EL 3 (fk (f7.mk p0.chans B p0.tick) a w) Z (Rb1 Z)<|?_
      refine fe Z (Sa (fk (f7.mk p0.chans B p0.tick) a w) Z .here Z ?_)
      refine Ea Z<|Ea Z<|fb<|fx<|?_
      obtain ⟨V, W, X⟩ := jq H
      subst i o p
      refine ⟨(.inl Z), [(.agg (fk (f7.mk p0.chans B p0.tick) a w).toArray), (sv fB), (.bool true)], ⟨(.agg (fk (f7.mk p0.chans B p0.tick) a w).toArray), _, Z, ⟨_, 3, (fk (f7.mk p0.chans B p0.tick) a w), Z, Z, Z, Z, ⟨Z, Rb0 Z⟩, Z⟩, ⟨(sv fB), _, Z, Z, ⟨(.bool true), _, Z, Z, Z⟩⟩⟩, ?_⟩
      refine Shift.nilTok1 67 6<|Re1<|Re1<|Re1<|?_
      have bF := (h.mono e).mono bo
      exact Sd ⟨a, w, fB, Z, Z, bF, cy, (Slr.nil fO _)⟩
theorem Dv (p0 : ad2) (bB : SV) (p1 : Int) (I : fQ) (Q : ae8) (R : ad8) (H : qK p0 p1 = some (I, Q, R)) (K : Kp) (G : List Ent) (cX : Slr Ty.u8 K (sv bB) p0) :
  Fc Tryz.prog 8 #[(sv bB), (Vi p1)] K (G) (fun v a n => ∃ (bC bD cr : SV) (co : List (List Value)) (bE : SV), v = (.tuple #[(.agg (fq I bC bD).toArray), (sv cr), (sv bE)]) ∧ (.tok 3 1 [(sv bC)]) :: (.tok 36 1 [(sv bD)]) :: (.row (sv cr) 52 1 co.flatten) :: (.tok 40 8 [(sv bE)]) :: G = n ∧ Slr Ty.i64 a (sv bC) I.capacities ∧ Slr Ty.u64 a (sv bD) I.starts ∧ RowR (Ty.sl gR) a co Q ∧ Slr f4 a (sv bE) R) := by
 refine fN Tryz.func8 Z Tryz.ntmps8 Tryz.results8 Z ?_
 unfold qK at H
 refine fc<|fa<|?_
 refine fe Z (fD (cs := (fq (fQ.mk [] [] 0) fB fB)) Z Z Z Z (fun p => ?_))
 refine Ea Z<|Ea Z<|fb<|fc<|fa<|Em Z<|?_
 obtain ⟨g, dQ, H⟩ := bnd H
 refine fe Z (Ek Tryz.call18 Z (DK p0 bB 160 g dQ _ _ cX) ?_)
 rintro _ _ _ - ⟨j, O, rfl, rfl, rfl, bX⟩
 refine Ea Z<|fb<|fc<|fa<|Em Z<|?_
 obtain ⟨b, cw, cx, dR, H⟩ := j7 H
 refine fe Z (Ek Tryz.call19 Z (FK j g O b cw cx dR _ _ bX) ?_)
 rintro _ ek _ cB ⟨e, f, rfl, rfl, bY, bZ⟩
 refine fe Z (fD (cs := (fq (fQ.mk [] [] 0) fB fB)) Z Z Z Z (fun s => ?_))
 refine fe Z (Sa (fq b e f) Z .here Z ?_)
 refine fb<|fc<|fa<|Em Z<|EL 3 (fq b e f) Z (Rb0 Z)<|Em Z<|?_
 obtain ⟨ac, bf, bg, dS, H⟩ := j7 H
 refine Ow.shift (Pu1 (Sd ?_))
 have bu := bX.mono cB
 refine fe Z (Ek Tryz.call20 Z (FG j (fg.mk g.list cw cx) O b e f p1 ac bf bg dS _ _ bu bY bZ) ?_)
 rintro _ el _ aM ⟨h, aa, rfl, rfl, bv⟩
 refine Ea Z<|fb<|fc<|fa<|EL 3 (fq b e f) Z (Rb2 Z)<|?_
 obtain ⟨al, dT, H⟩ := bnd H
 have b0 := bY.mono aM
 have b1 := bZ.mono aM
 refine fe Z (Ek Tryz.call21 Z (DL b e f al dT _ _ b0 b1) ?_)
 rintro _ cA _ af ⟨bd, bA, rfl, rfl, dJ, dK⟩
 refine fe Z (fD (cs := (fk (f7.mk [] [] 0) fB fB)) Z Z Z Z (fun A => ?_))
 refine fe Z (Sa (fk al bd bA) Z .here Z ?_)
 refine fb ?_
 refine fz (fun u a n => ∃ (y : SV) (a0 : ad2) (a6 : List (List Value)) (z : SV) (a1 : ad2) (a7 : List (List Value)), [(4, (Vp p)), (7, (Vp j)), (8, (Vp s)), (9, (sv h)), (10, (Vp A)), (11, (sv y)), (12, (sv z))] = u ∧ cA = a ∧ (.blk A 60 (fk al bd bA)) :: (.blk s 27 (fq b e f)) :: (.blk j 99 (fE (fg.mk g.list bf bg) O)) :: (.blk p 27 (fq (fQ.mk [] [] 0) fB fB)) :: (.row (sv y) 3 1 a6.flatten) :: (.row (sv z) 3 1 a7.flatten) :: (.tok 104 3 [(sv bd)]) :: (.row (sv h) 52 1 aa.flatten) :: (.tok 3 1 [(sv e)]) :: (.tok 36 1 [(sv f)]) :: G = n ∧ vY ac al b g bf bg a0 a1 = some (I, Q, R) ∧ RowR Ty.i64 a a6 a0 ∧ RowR Ty.i64 a a7 a1) ?_ ?_
 ·obtain ⟨cy, ck, H⟩ := bnd H
  obtain ⟨cz, cl, H⟩ := bnd H
  refine fw _ Z (Ic Mb0 (Ic Mb1 (Ic Mb2 (Ic Mb3 (Ic Mb4 (Ic Mb5 (Ic Mb6 (Ic Mb7 In0))))))))<|JF 0 2 Z<|Jl 1 (Vi b.threads) Z (Rb4 Z)<|JF 3 2 Z<|Jl 4 (Vi b.threads) Z (Rb4 Z)<|?_
  refine gW 2 5 (by kernel_rfl) ?_ ?_
  ·refine id (Jy Z ?_)
   refine jw (T := Ty.i64) (r := [(Vi 0)]) Z Z Z ck Z Z Z Z Z Z Z Z Z Z (fun d4 dV cO ey => ⟨(Ic Mb1 (Ic Mb2 (Ic Mb3 (Ic Mb4 (Ic Mb5 (Ic Mb6 (Ic Mb7 (Ic Mb8 In0)))))))), ?_⟩)
   refine Ja 6 Z ?_
   refine Ao 5 Z ?_
   refine jw (T := Ty.i64) (r := [(Vi 0)]) Z Z Z cl Z Z Z Z Z Z Z Z Z Z (fun d5 dW cP ez => ⟨(Ic Mb2 (Ic Mb3 (Ic Mb4 (Ic Mb5 (Ic Mb6 (Ic Mb7 (Ic Mb8 (Ic Mb9 In0)))))))), ?_⟩)
   exact Ja 7 Z<|Ad<|Pu8<|Pu8<|Pu7<|Pu6<|Pu4<|Pu5<|Pu9<|Pu8<|Pu9<|Pu9<|Sd<|⟨_, by exact R7, d4, cy, dV, d5, cz, dW, Z, Z, Z, H, cO, cP⟩
  ·refine id (Jy Z ?_)
   refine jw (T := Ty.i64) (r := [(Vi 0)]) Z Z Z cl Z Z Z Z Z Z Z Z Z Z (fun d6 dX cQ eA => ⟨(Ic Mb1 (Ic Mb2 (Ic Mb3 (Ic Mb4 (Ic Mb5 (Ic Mb6 (Ic Mb7 (Ic Mb8 In0)))))))), ?_⟩)
   refine Ao 2 Z ?_
   refine jw (T := Ty.i64) (r := [(Vi 0)]) Z Z Z ck Z Z Z Z Z Z Z Z Z Z (fun d7 dY cR eB => ⟨(Ic Mb2 (Ic Mb3 (Ic Mb4 (Ic Mb5 (Ic Mb6 (Ic Mb7 (Ic Mb8 (Ic Mb9 In0)))))))), ?_⟩)
   exact Ja 6 Z<|Ja 7 Z<|Ad<|Pu8<|Pu8<|Pu7<|Pu6<|Pu5<|Pu5<|Pu9<|Pu8<|Pu9<|Pu9<|Sd<|⟨_, by exact R7, d7, cy, dY, d6, cz, dX, Z, Z, Z, H, cR, cQ⟩
 rintro _ _ _ - ⟨y, a0, a6, z, a1, a7, rfl, rfl, rfl, H, cM, cN⟩
 unfold vY at H
 refine fc<|fa<|EF 2 Z<|El (Vi b.threads) Z (Rb1 Z)<|?_
 obtain ⟨ef, dU, H⟩ := bnd H
 refine fe Z (jw (T := fP) (r := (ff (Result.mk 0 0 0 false 0))) Z Z Z dU Z Z Z Z Z Z Z Z Z Z (fun M dZ cS eC => ?_))
 refine Ea Z<|fb<|fc<|fa<|Ea Z<|fb<|?_
 refine fz (fun u a n => ∃ (ak : SV) (bw : ad8), [(4, (Vp p)), (8, (Vp s)), (9, (sv h)), (14, (sv ak))] = u ∧ (.blk s 27 (fq b e f)) :: (.blk p 27 (fq (fQ.mk [] [] 0) fB fB)) :: (.tok 40 8 [(sv ak)]) :: (.row (sv h) 52 1 aa.flatten) :: (.tok 3 1 [(sv e)]) :: (.tok 36 1 [(sv f)]) :: G = n ∧ vV ac b bw = some (I, Q, R) ∧ Slr f4 a (sv ak) bw) ?_ ?_
 ·refine fc<|fa<|Ea Z<|fb<|fA<|?_
  refine fY (fun cm u a n => ∃ (L : ad2) (N : List (List Value)) (D : ad2) (V : List (List Value)) (S : ad7) (W : List (List Value)) (x : SV) (U : ad8) (w : Int) (X : SV) (E : ad1) (Y : SV) (F : ae0) (J ai aj : Int), [(4, (Vp p)), (7, (Vp j)), (8, (Vp s)), (9, (sv h)), (10, (Vp A)), (11, (sv y)), (12, (sv z)), (13, (sv M)), (14, (sv x)), (15, (Vi w))] = u ∧ (.blk A 60 (fk (f7.mk E F J) X Y)) :: (.blk s 27 (fq b e f)) :: (.blk j 99 (fE (fg.mk g.list ai aj) O)) :: (.blk p 27 (fq (fQ.mk [] [] 0) fB fB)) :: (.row (sv y) 3 1 N.flatten) :: (.row (sv z) 3 1 V.flatten) :: (.row (sv M) 38 5 W.flatten) :: (.tok 40 8 [(sv x)]) :: (.row (sv h) 52 1 aa.flatten) :: (.tok 3 1 [(sv e)]) :: (.tok 36 1 [(sv f)]) :: G = n ∧ CJ (vX ac b g) cm L D S U w E F J ai aj = some (I, Q, R) ∧ RowR Ty.i64 a N L ∧ RowR Ty.i64 a V D ∧ RowR fP a W S ∧ Slr f4 a (sv x) U ∧ Slr fH a (sv X) E ∧ Slr fJ a (sv Y) F) BIG ?_ ?_
  ·exact Shift.nilTok1 40 8<|jf<|jf<|jf<|Pu3<|Pu4<|gC<|gC<|gC<|gC<|gC<|gC<|Re11<|Sd<|⟨_, by exact R10, a0, a6, a1, a7, ef, dZ, fB, ([] : ad8), 0, bd, al.chans, bA, al.waiting, al.tick, bf, bg, Z, Z, H, cM, cN, cS, (Slr.nil f4 _), dJ, dK⟩
  rintro cm _ aK _ aL ⟨L, N, D, V, S, W, x, U, w, X, E, Y, F, J, ai, aj, rfl, rfl, H, t, o, ag, aC, aN, aO⟩
  obtain ⟨eE, aE, rfl, cV, H⟩ := lps10 H
  unfold vX at H
  refine fc ?_
  refine fz (fun u a n => ∃ (bx : Bool) (B C : Int), [(4, (Vp p)), (7, (Vp j)), (8, (Vp s)), (9, (sv h)), (10, (Vp A)), (11, (sv y)), (12, (sv z)), (13, (sv M)), (14, (sv x)), (15, (Vi w)), (45, (.bool bx))] = u ∧ aK = a ∧ (.blk A 60 (fk (f7.mk E F J) X Y)) :: (.blk s 27 (fq b e f)) :: (.blk j 99 (fE (fg.mk g.list B C) O)) :: (.blk p 27 (fq (fQ.mk [] [] 0) fB fB)) :: (.row (sv y) 3 1 N.flatten) :: (.row (sv z) 3 1 V.flatten) :: (.row (sv M) 38 5 W.flatten) :: (.tok 40 8 [(sv x)]) :: (.row (sv h) 52 1 aa.flatten) :: (.tok 3 1 [(sv e)]) :: (.tok 36 1 [(sv f)]) :: G = n ∧ oJ ac L D S U w E F J b g aE bx B C = some (I, Q, R)) ?_ ?_
  ·refine fa<|Em Z<|Ec Z<|Em Z<|?_
   refine Ee Z ?_ ?_
   ·intro ar
    obtain ⟨ar, H⟩ := It ar H
    refine Vm Z ?_
    obtain ⟨ct, dL, H⟩ := bnd H
    refine Ow.shift (Pu2 (Sd ?_))
    have di := ((bu.mono aM).mono af).mono aL
    refine hQ Z Z Z Z (Ek Tryz.call22 Z (tK j (fg.mk g.list ai aj) O ct dL _ _ di) ?_)
    rintro _ _ _ - ⟨rfl, rfl, rfl⟩
    exact Et Z<|fb<|gC<|gC<|gC<|gC<|gC<|gC<|gC<|gC<|Pu8<|gC<|gC<|Sd<|⟨_, by exact R11, ct, ((fg.mk g.list ai aj).at_), ((fg.mk g.list ai aj).value), Z, Z, Z, H⟩
   ·intro ar
    obtain ⟨ar, H⟩ := If ar H
    exact Ez Z<|Ez Z<|Ef Z<|fb<|gC<|gC<|gC<|gC<|gC<|gC<|gC<|gC<|gC<|gC<|gC<|Sd<|⟨_, by exact R11, false, ai, aj, Z, Z, Z, H⟩
  rintro _ _ _ - ⟨bx, B, C, rfl, rfl, rfl, H⟩
  unfold oJ at H
  refine fm Z ?_ ?_
  ·intro bh
   have H := ift bh H
   refine ft ?_
   refine fz (fun u a n => ∃ (aV : ad2) (a2 : List (List Value)) (aW : ad2) (a3 : List (List Value)) (aX : ad7) (a4 : List (List Value)) (aJ : SV) (aY : ad8) (a8 : SV) (aF : ad1) (a9 : SV) (aG : ae0) (aT aU : Int), [(4, (Vp p)), (7, (Vp j)), (8, (Vp s)), (9, (sv h)), (10, (Vp A)), (11, (sv y)), (12, (sv z)), (13, (sv M)), (14, (sv aJ)), (15, (Vi w))] = u ∧ (.blk A 60 (fk (f7.mk aF aG aT) a8 a9)) :: (.blk s 27 (fq b e f)) :: (.blk j 99 (fE (fg.mk g.list aU ((fg.mk g.list B C).value)) O)) :: (.blk p 27 (fq (fQ.mk [] [] 0) fB fB)) :: (.row (sv y) 3 1 a2.flatten) :: (.row (sv z) 3 1 a3.flatten) :: (.row (sv M) 38 5 a4.flatten) :: (.tok 40 8 [(sv aJ)]) :: (.row (sv h) 52 1 aa.flatten) :: (.tok 3 1 [(sv e)]) :: (.tok 36 1 [(sv f)]) :: G = n ∧ pM ac w b g B C aE aV aW aX aY aF aG aT aU = some (I, Q, R) ∧ RowR Ty.i64 a a2 aV ∧ RowR Ty.i64 a a3 aW ∧ RowR fP a a4 aX ∧ Slr f4 a (sv aJ) aY ∧ Slr fH a (sv a8) aF ∧ Slr fJ a (sv a9) aG) ?_ ?_
   ·refine fA<|fc<|fa<|Em Z<|EF 2 Z<|El (Vi b.threads) Z (Rb1 Z)<|?_
    obtain ⟨c, P, dM, H⟩ := iw H
    refine Ow.shift (Pu2 (Sd ?_))
    have dm := ((bu.mono aM).mono af).mono aL
    refine fe Z (Ek Tryz.call23 Z (jd j (fg.mk g.list B C) O b.threads c P dM _ _ dm) ?_)
    rintro _ _ _ - ⟨rfl, rfl, rfl⟩
    refine Ea Z<|fb<|fA<|?_
    refine fz (fun u a n => ∃ (bz : Bool), [(4, (Vp p)), (7, (Vp j)), (8, (Vp s)), (9, (sv h)), (10, (Vp A)), (11, (sv y)), (12, (sv z)), (13, (sv M)), (14, (sv x)), (15, (Vi w)), (16, (Vi c)), (52, (.bool bz))] = u ∧ aK = a ∧ (.blk A 60 (fk (f7.mk E F J) X Y)) :: (.blk s 27 (fq b e f)) :: (.blk j 99 (fE (fg.mk g.list P ((fg.mk g.list B C).value)) O)) :: (.blk p 27 (fq (fQ.mk [] [] 0) fB fB)) :: (.row (sv y) 3 1 N.flatten) :: (.row (sv z) 3 1 V.flatten) :: (.row (sv M) 38 5 W.flatten) :: (.tok 40 8 [(sv x)]) :: (.row (sv h) 52 1 aa.flatten) :: (.tok 3 1 [(sv e)]) :: (.tok 36 1 [(sv f)]) :: G = n ∧ pN ac L D S U w c E F J b g P B C aE bz = some (I, Q, R)) ?_ ?_
    ·obtain ⟨bF, aS, H⟩ := bnd H
     rcases gY (dcd (bF = 0)) with bJ | bJ <;> revert bJ
     ·intro ae
      obtain ⟨ae, H⟩ := It ae H
      obtain ⟨cu, b2, H⟩ := bnd H
      obtain ⟨d8, b3, H⟩ := bnd H
      refine fw _ Z (Ic Mb0 (Ic Mb1 (Ic Mb2 (Ic Mb3 (Ic Mb4 (Ic Mb5 (Ic Mb6 (Ic Mb7 (Ic Mb8 (Ic Mb9 (Ic uE In0)))))))))))<|Jm 0 Z<|Jm 1 Z<|?_
      obtain ⟨eG, bK, cY⟩ := RowR.at o aS
      obtain rfl := cY
      refine Jq 2 Z (gP (T := Ty.i64) Mb5 o bK (fR aS).1 Z Z Z Z Z)<|Jl 3 (Vi bF) Z (ib (T := Ty.i64) Mb5 o bK Z Z)<|Jc 4 Z<|Jm 5 Z<|Aw.known (d := 58) Z (hX ae)<|Bm 6 Z<|Bm 7 Z<|?_
      obtain ⟨eH, bL, cZ⟩ := RowR.at t b2
      obtain rfl := cZ
      refine Bq 8 Z (gP (T := Ty.i64) Mb4 t bL (fR b2).1 Z Z Z Z Z)<|Bl 9 (Vi cu) Z (ib (T := Ty.i64) Mb4 t bL Z Z)<|Bm 10 Z<|Bm 11 Z<|?_
      have br := (bv.mono af).mono aL
      obtain ⟨eI, bM, c0⟩ := RowR.at br b3
      obtain ⟨d0, rfl, dn⟩ := c0
      exact Bq 12 Z (gP (T := (Ty.sl gR)) Mb8 br bM (fR b3).1 Z Z Z Z Z)<|Bl 13 (sv d0) Z (ib (T := (Ty.sl gR)) Mb8 br bM Z Z)<|Bq 14 Z (ge (T := gR) dn Z Z)<|Bc 15 Z<|Jt 16 Z<|Ja 17 Z<|Ad<|gC<|gC<|gC<|gC<|gC<|gC<|gC<|gC<|Pu8<|gC<|gC<|Sd<|⟨_, by exact R12, (dcd (cu < (d8.length : Int))), Z, Z, Z, H⟩
     ·intro ae
      obtain ⟨ae, H⟩ := If ae H
      refine fw _ Z (Ic Mb0 (Ic Mb1 (Ic Mb2 (Ic Mb3 (Ic Mb4 (Ic Mb5 (Ic Mb6 (Ic Mb7 (Ic Mb8 (Ic Mb9 (Ic uE In0)))))))))))<|Jm 0 Z<|Jm 1 Z<|?_
      obtain ⟨eJ, bN, c1⟩ := RowR.at o aS
      obtain rfl := c1
      refine Jq 2 Z (gP (T := Ty.i64) Mb5 o bN (fR aS).1 Z Z Z Z Z)<|Jl 3 (Vi bF) Z (ib (T := Ty.i64) Mb5 o bN Z Z)<|Jc 4 Z<|Jm 5 Z<|Aw.known (d := 58) Z (iE ae)<|Jz 6 Z<|Jz 7 Z<|Jz 8 Z<|Jz 9 Z<|Jz 10 Z<|Jz 11 Z<|Jz 12 Z<|Jz 13 Z<|Jz 14 Z<|Jz 15 Z<|Jf 16 Z<|Ja 17 Z<|Ad<|gC<|gC<|gC<|gC<|?_
      exact gC<|gC<|gC<|gC<|Pu8<|gC<|gC<|Sd<|⟨_, by exact R12, false, Z, Z, Z, H⟩
    rintro _ _ _ - ⟨bz, rfl, rfl, rfl, H⟩
    unfold pN at H
    refine fm Z ?_ ?_
    ·intro bi
     have H := ift bi H
     refine fc<|fa<|Em Z<|Em Z<|Em Z<|Em Z<|?_
     obtain ⟨ao, b4, H⟩ := bnd H
     obtain ⟨eK, bO, c2⟩ := RowR.at t b4
     obtain rfl := c2
     refine Eq Z (gP (T := Ty.i64) Mb4 t bO (fR b4).1 Z Z Z Z Z)<|El (Vi ao) Z (ib (T := Ty.i64) Mb4 t bO Z Z)<|Eq Z (fG (cs := (fZ (Event.mk c ao false (Result.mk 0 0 0 false 0)))) Z Z Z Z Z Z)<|?_
     have bH : RowR f4 aK [(fZ (Event.mk c ao false (Result.mk 0 0 0 false 0)))] [(Event.mk c ao false (Result.mk 0 0 0 false 0))] := RowR.cons Z (RowR.nil)
     refine fe Z (gh (T := f4) (rows := [(fZ (Event.mk c ao false (Result.mk 0 0 0 false 0)))]) (l := [(Event.mk c ao false (Result.mk 0 0 0 false 0))]) Z Z Z bH Z Z Z Z Z Z Z Z (fun eZ => ?_))
     obtain ⟨d9, dN, H⟩ := bnd H
     refine fe Z (f8 (T := f4) (bytes := 64) (q := 0) Z Z Z aC Mb8 Z (SrcT.row Mb0 bH Z) dN Z Z Z Z Z Z Z Z (fun d1 eg ax dp => ⟨_, (.there (.there (.there (.there (.there (.there (.there (.there .here)))))))), ?_⟩))
     refine Ow.shift (Re0 (Sd ?_))
     refine Ea Z<|fb<|fa<|Em Z<|Em Z<|?_
     obtain ⟨e1, b5, H⟩ := bnd H
     have aP := o.mono ax
     obtain ⟨eL, bl, c3⟩ := RowR.at aP b5
     obtain rfl := c3
     refine Eq Z (gP (T := Ty.i64) Mb5 aP bl (fR b5).1 Z Z Z Z Z) ?_
     refine fe Z (gX (T := Ty.i64) (vs := [(Vi 1)]) (r' := [(Vi 1)]) (l' := (gb D c 1)) Z Z Z Z Z (.there (.there (.there (.there (.there .here))))) aP bl Z Z Z (RowR.set c aP Z) (fun cF => ?_))
     have er := iV bl (v := [(Vi 1)])
     refine fb<|gC<|gC<|gC<|gC<|gC<|gC<|gC<|gC<|gC<|gC<|gC<|?_
     have dq := t.mono ax
     have dr := ag.mono ax
     have ds := aN.mono ax
     have dt := aO.mono ax
     exact Sd ⟨_, by exact R10, L, N, (gb D c 1), (V.set c.toNat [(Vi 1)]), S, W, d1, d9, X, E, Y, F, J, P, Z, Z, H, dq, cF, dr, dp, ds, dt⟩
    ·intro bi
     have H := f0 (btf bi) H
     refine fc<|fa<|Em Z<|Em Z<|?_
     obtain ⟨ea, b6, H⟩ := bnd H
     obtain ⟨eM, bP, c4⟩ := RowR.at o b6
     obtain rfl := c4
     refine Eq Z (gP (T := Ty.i64) Mb5 o bP (fR b6).1 Z Z Z Z Z)<|El (Vi ea) Z (ib (T := Ty.i64) Mb5 o bP Z Z)<|Ec Z<|Ea Z<|fb<|?_
     refine fm Z ?_ ?_
     ·intro au
      obtain ⟨au, H⟩ := It au H
      refine fc<|fa<|Ea Z<|fb<|fc<|fa<|Ea Z<|fb<|fc<|?_
      obtain ⟨e2, b7, H⟩ := bnd H
      obtain ⟨eb, b8, H⟩ := bnd H
      obtain ⟨cv, b9, H⟩ := bnd H
      obtain ⟨ab, be, ec, dO, H⟩ := j7 H
      refine fw _ Z (Ic Mb1 (Ic Mb2 (Ic Mb3 (Ic Mb4 (Ic Mb5 (Ic Mb6 (Ic Mb7 (Ic Mb8 (Ic Mb9 (Ic uE In0))))))))))<|Jm 1 Z<|Jm 2 Z<|Jm 3 Z<|?_
      have bs := (bv.mono af).mono aL
      obtain ⟨eN, bQ, c5⟩ := RowR.at bs b7
      obtain ⟨d2, rfl, bW⟩ := c5
      refine Jq 4 Z (gP (T := (Ty.sl gR)) Mb7 bs bQ (fR b7).1 Z Z Z Z Z)<|Jl 5 (sv d2) Z (ib (T := (Ty.sl gR)) Mb7 bs bQ Z Z)<|Jm 6 Z<|Jm 7 Z<|?_
      obtain ⟨eO, bR, c6⟩ := RowR.at t b8
      obtain rfl := c6
      refine Jq 8 Z (gP (T := Ty.i64) Mb3 t bR (fR b8).1 Z Z Z Z Z)<|Jl 9 (Vi eb) Z (ib (T := Ty.i64) Mb3 t bR Z Z)<|?_
      obtain ⟨eP, c7, cT⟩ := Slr.at bW b9
      obtain ⟨cp, cq, rfl, du, dv⟩ := c7
      refine Jq 10 Z (Qi (T := gR) bW b9 Z)<|JL 11 7 (fj cv cp cq) Z (Rdc.k cT Z)<|?_
      refine gB 0 (by kernel_rfl) (Jyq Z (jj (m := 3) (cs := (fk (f7.mk E F J) X Y)) Z Z Z Z ⟨Z, Rb0 Z⟩) ⟨(Ic Mb1 (Ic Mb2 (Ic Mb3 (Ic Mb4 (Ic Mb5 (Ic Mb6 (Ic Mb7 (Ic Mb8 (Ic Mb9 (Ic uE In0)))))))))), ?_⟩)
      refine Ao 12 Z ?_
      refine Ek Tryz.call24 Z (DT (f7.mk E F J) X Y c cv cp cq ab be ec dO _ _ aN aO du dv) ?_
      rintro _ bG _ ay ⟨ba, bb, bc, rfl, rfl, dw, dx, bt⟩
      refine ⟨(Ic Mb2 (Ic Mb3 (Ic Mb4 (Ic Mb5 (Ic Mb6 (Ic Mb7 (Ic Mb8 (Ic Mb9 (Ic uE (Ic Fo In0)))))))))), ?_⟩
      refine Jm 13 Z<|Jx 14 Z<|Jx 15 Z<|Jx 16 Z<|?_
      refine Ao 17 Z ?_
      refine Sa (fk ab ba bb) Z (.there .here) Z ⟨(Ic Mb2 (Ic Mb3 (Ic Mb4 (Ic Mb5 (Ic Mb6 (Ic Mb7 (Ic Mb8 (Ic Mb9 (Ic uE (Ic Fo In0)))))))))), ?_⟩
      refine Ja 18 Z<|Ja 19 Z<|Ad<|?_
      refine fz (fun u a n => ∃ (aZ : ad2) (a5 : List (List Value)), [(4, (Vp p)), (7, (Vp j)), (8, (Vp s)), (9, (sv h)), (10, (Vp A)), (11, (sv y)), (12, (sv z)), (13, (sv M)), (14, (sv x)), (15, (Vi w)), (17, (sv bc))] = u ∧ bG = a ∧ (.blk A 60 (fk ab ba bb)) :: (.blk s 27 (fq b e f)) :: (.blk j 99 (fE (fg.mk g.list P ((fg.mk g.list B C).value)) O)) :: (.blk p 27 (fq (fQ.mk [] [] 0) fB fB)) :: (.row (sv z) 3 1 a5.flatten) :: (.tok 67 6 [(sv bc)]) :: (.row (sv y) 3 1 N.flatten) :: (.row (sv M) 38 5 W.flatten) :: (.tok 40 8 [(sv x)]) :: (.row (sv h) 52 1 aa.flatten) :: (.tok 3 1 [(sv e)]) :: (.tok 36 1 [(sv f)]) :: G = n ∧ oI ac L S U w be ab b g P B C aE aZ = some (I, Q, R) ∧ RowR Ty.i64 a a5 aZ) ?_ ?_
      ·refine fc<|fa<|Em Z<|fb<|?_
       refine fm Z ?_ ?_
       ·intro bj
        have H := ift bj H
        refine fa<|Em Z<|Em Z<|?_
        obtain ⟨e3, ca, H⟩ := bnd H
        have aQ := o.mono ay
        obtain ⟨eQ, bm, c8⟩ := RowR.at aQ ca
        obtain rfl := c8
        refine Eq Z (gP (T := Ty.i64) Mb6 aQ bm (fR ca).1 Z Z Z Z Z) ?_
        refine fe Z (gX (T := Ty.i64) (vs := [(Vi 2)]) (r' := [(Vi 2)]) (l' := (gb D c 2)) Z Z Z Z Z (.there (.there (.there (.there (.there (.there .here)))))) aQ bm Z Z Z (RowR.set c aQ Z) (fun cH => ?_))
        have es := iV bm (v := [(Vi 2)])
        exact fb<|jf<|jf<|jf<|jf<|jf<|gC<|Pu6<|jf<|jf<|jf<|jf<|jf<|Sd<|⟨_, by exact R11, (gb D c 2), (V.set c.toNat [(Vi 2)]), Z, Z, Z, H, cH⟩
       ·intro bj
        have H := f0 (btf bj) H
        refine ft<|jf<|jf<|jf<|jf<|jf<|gC<|Pu6<|jf<|jf<|jf<|jf<|jf<|?_
        have dy := o.mono ay
        exact Sd ⟨_, by exact R11, D, V, Z, Z, Z, H, dy⟩
      rintro _ _ _ - ⟨aZ, a5, rfl, rfl, rfl, H, cG⟩
      unfold oI at H
      refine fc<|fa<|Em Z<|Eq Z (ge (T := fO) bt Z Z)<|Em Z<|fb<|fA<|?_
      refine fY (fun cn u a n => ∃ (am : ad2) (aH : List (List Value)) (an : ad7) (aI : List (List Value)) (aD : Int), [(4, (Vp p)), (7, (Vp j)), (8, (Vp s)), (9, (sv h)), (10, (Vp A)), (11, (sv y)), (12, (sv z)), (13, (sv M)), (14, (sv x)), (15, (Vi w)), (109, (sv bc)), (110, (Vi (be.length : Int))), (111, (Vi aD))] = u ∧ bG = a ∧ (.blk A 60 (fk ab ba bb)) :: (.blk s 27 (fq b e f)) :: (.blk j 99 (fE (fg.mk g.list P ((fg.mk g.list B C).value)) O)) :: (.blk p 27 (fq (fQ.mk [] [] 0) fB fB)) :: (.row (sv z) 3 1 aH.flatten) :: (.row (sv M) 38 5 aI.flatten) :: (.tok 67 6 [(sv bc)]) :: (.row (sv y) 3 1 N.flatten) :: (.tok 40 8 [(sv x)]) :: (.row (sv h) 52 1 aa.flatten) :: (.tok 3 1 [(sv e)]) :: (.tok 36 1 [(sv f)]) :: G = n ∧ lp3 (vW ac L U w be ab b g P B C aE) cn am an aD = some (I, Q, R) ∧ RowR Ty.i64 a aH am ∧ RowR fP a aI an) BIG ?_ ?_
      ·refine jf<|jf<|jf<|jf<|gC<|gC<|jf<|jf<|jf<|jf<|jf<|jf<|?_
       have dz := ag.mono ay
       exact Sd ⟨_, by exact R13, aZ, a5, S, W, 0, Z, Z, Z, H, cG, dz⟩
      rintro cn _ _ _ - ⟨am, aH, an, aI, aD, rfl, rfl, rfl, H, aA, aB⟩
      obtain ⟨eF, eD, rfl, cW, H⟩ := pq H
      unfold vW at H
      refine fc<|fa<|Ec Z<|fb<|fc<|?_
      refine fm Z ?_ ?_
      ·intro av
       obtain ⟨av, H⟩ := It av H
       refine ft<|fc<|fA<|fc<|fa<|?_
       obtain ⟨i, cb, H⟩ := bnd H
       obtain ⟨_, rfl, cU⟩ := Slr.at bt cb
       refine Eq Z (Qi (T := fO) bt cb Z)<|EL 6 (fF i) Z (Rdc.k cU Z)<|?_
       refine fe Z (fD (cs := (fF (Done.mk 0 (Result.mk 0 0 0 false 0)))) Z Z Z Z (fun em => ?_))
       refine fe Z (Sa (fF i) Z .here Z ?_)
       refine fb<|fc<|fa<|Em Z<|EF 0 Z<|El (Vi i.thread) Z (Rb0 Z)<|EF 1 Z<|EL 5 (ff i.result) Z (Rb0 Z)<|?_
       obtain ⟨e4, cc, H⟩ := bnd H
       obtain ⟨eR, bn, c9⟩ := RowR.at aB cc
       obtain rfl := c9
       refine Eq Z (gP (T := fP) Mb6 aB bn (fR cc).1 Z Z Z Z Z) ?_
       refine fe Z (gX (T := fP) (vs := (ff i.result)) (r' := (ff i.result)) (l' := (gb an i.thread i.result)) Z Z Z Z Z (.there (.there (.there (.there (.there (.there .here)))))) aB bn Z Z Z (RowR.set i.thread aB Z) (fun cI => ?_))
       have et := iV bn (v := (ff i.result))
       refine fb<|fa<|Em Z<|EF 0 Z<|El (Vi i.thread) Z (Rb0 Z)<|?_
       obtain ⟨e5, cd, H⟩ := bnd H
       obtain ⟨eS, bo, da⟩ := RowR.at aA cd
       obtain rfl := da
       refine Eq Z (gP (T := Ty.i64) Mb5 aA bo (fR cd).1 Z Z Z Z Z) ?_
       refine fe Z (gX (T := Ty.i64) (vs := [(Vi 3)]) (r' := [(Vi 3)]) (l' := (gb am i.thread 3)) Z Z Z Z Z (.there (.there (.there (.there (.there .here))))) aA bo Z Z Z (RowR.set i.thread aA Z) (fun cJ => ?_))
       have eu := iV bo (v := [(Vi 3)])
       exact fb<|fa<|Er (wI (aD + 1)) Z<|Em Z<|fb<|qm<|qm<|qm<|qm<|qm<|qm<|qm<|qm<|qm<|qm<|qm<|qm<|Re12<|Sd<|⟨_, by exact R13, _, Nat.lt_succ_self _, (gb am i.thread 3), (aH.set i.thread.toNat [(Vi 3)]), (gb an i.thread i.result), (aI.set i.thread.toNat (ff i.result)), (wI (aD + 1)), Z, Z, Z, (cW ▸ H), cJ, cI⟩
      ·intro av
       obtain ⟨av, H⟩ := If av H
       refine f5<|jf<|jf<|jf<|jf<|Pu9<|Pu9<|jf<|gC<|gC<|gC<|gC<|Re11<|?_
       have dA := t.mono ay
       have dB := aC.mono ay
       exact Sd ⟨_, by exact R10, L, N, am, aH, an, aI, x, U, ba, ab.chans, bb, ab.waiting, ab.tick, P, Z, Z, H, dA, aA, aB, dB, dw, dx⟩
     ·intro au
      obtain ⟨au, H⟩ := If au H
      refine fc<|fa<|Em Z<|Em Z<|?_
      obtain ⟨ed, ce, H⟩ := bnd H
      obtain ⟨eT, bS, db⟩ := RowR.at o ce
      obtain rfl := db
      refine Eq Z (gP (T := Ty.i64) Mb5 o bS (fR ce).1 Z Z Z Z Z)<|El (Vi ed) Z (ib (T := Ty.i64) Mb5 o bS Z Z)<|Ec Z<|Ea Z<|fb<|?_
      refine fm Z ?_ ?_
      ·intro aw
       obtain ⟨aw, H⟩ := It aw H
       refine fc ?_
       obtain ⟨ap, cf, H⟩ := bnd H
       obtain ⟨aq, cg, H⟩ := bnd H
       obtain ⟨ee, dP, H⟩ := bnd H
       refine fw _ Z (Ic Mb0 (Ic Mb1 (Ic Mb2 (Ic Mb3 (Ic Mb4 (Ic Mb5 (Ic Mb6 (Ic Mb8 (Ic Mb9 (Ic uE In0))))))))))<|Jm 0 Z<|Jm 1 Z<|Jm 2 Z<|Jm 3 Z<|?_
       obtain ⟨eU, bT, dc⟩ := RowR.at t cf
       obtain rfl := dc
       refine Jq 4 Z (gP (T := Ty.i64) Mb4 t bT (fR cf).1 Z Z Z Z Z)<|Jl 5 (Vi ap) Z (ib (T := Ty.i64) Mb4 t bT Z Z)<|Jm 6 Z<|Jm 7 Z<|?_
       obtain ⟨eV, bU, dd⟩ := RowR.at ag cg
       obtain rfl := dd
       refine Jq 8 Z (gP (T := fP) Mb6 ag bU (fR cg).1 Z Z Z Z Z)<|JL 9 5 (ff aq) Z (ib (T := fP) Mb6 ag bU Z Z)<|Jq 10 Z (fG (cs := (fZ (Event.mk c ap true aq))) Z Z Z Z Z Z)<|?_
       refine Ao 11 Z ?_
       have bI : RowR f4 aK [(fZ (Event.mk c ap true aq))] [(Event.mk c ap true aq)] := RowR.cons Z (RowR.nil)
       refine gh (T := f4) (rows := [(fZ (Event.mk c ap true aq))]) (l := [(Event.mk c ap true aq)]) Z Z Z bI Z Z Z Z Z Z Z Z (fun e0 => ⟨(Ic Mb1 (Ic Mb2 (Ic Mb3 (Ic Mb4 (Ic Mb5 (Ic Mb6 (Ic Mb7 (Ic Mb9 (Ic uE (Ic Fo In0)))))))))), ?_⟩)
       refine Ao 12 Z ?_
       refine f8 (T := f4) (bytes := 64) (q := 0) Z Z Z aC Mb8 Z (SrcT.row Mb0 bI Z) dP Z Z Z Z Z Z Z Z (fun d3 eh az dC => ⟨_, (.there (.there (.there (.there (.there (.there (.there (.there .here)))))))), ⟨(Ic Mb1 (Ic Mb2 (Ic Mb3 (Ic Mb4 (Ic Mb5 (Ic Mb6 (Ic Mb7 (Ic Mb9 (Ic uE (Ic Fo In0)))))))))), ?_⟩⟩)
       refine Aw.shift (Re0 (Sd ⟨(Ic Mb0 (Ic Mb1 (Ic Mb2 (Ic Mb3 (Ic Mb4 (Ic Mb5 (Ic Mb6 (Ic Mb8 (Ic Mb9 (Ic uE In0)))))))))), ?_⟩))
       refine Ja 13 Z<|Ad<|fc<|fa<|Em Z<|Em Z<|?_
       obtain ⟨ad, ch, H⟩ := bnd H
       have ah := t.mono az
       obtain ⟨eW, bV, de⟩ := RowR.at ah ch
       obtain rfl := de
       refine Eq Z (gP (T := Ty.i64) Mb4 ah bV (fR ch).1 Z Z Z Z Z)<|El (Vi ad) Z (ib (T := Ty.i64) Mb4 ah bV Z Z)<|Er (wI (ad + 1)) Z<|?_
       obtain ⟨e6, ci, H⟩ := bnd H
       obtain ⟨eX, bp, df⟩ := RowR.at ah ci
       obtain rfl := df
       refine Eq Z (gP (T := Ty.i64) Mb4 ah bp (fR ci).1 Z Z Z Z Z) ?_
       refine fe Z (gX (T := Ty.i64) (vs := [(Vi (wI (ad + 1)))]) (r' := [(Vi (wI (ad + 1)))]) (l' := (gb L c (wI (ad + 1)))) Z Z Z Z Z (.there (.there (.there (.there .here)))) ah bp Z Z Z (RowR.set c ah Z) (fun cK => ?_))
       have ev := iV bp (v := [(Vi (wI (ad + 1)))])
       refine fb<|fa<|Em Z<|Em Z<|?_
       obtain ⟨e7, cj, H⟩ := bnd H
       have aR := o.mono az
       obtain ⟨eY, bq, dg⟩ := RowR.at aR cj
       obtain rfl := dg
       refine Eq Z (gP (T := Ty.i64) Mb5 aR bq (fR cj).1 Z Z Z Z Z) ?_
       refine fe Z (gX (T := Ty.i64) (vs := [(Vi 0)]) (r' := [(Vi 0)]) (l' := (gb D c 0)) Z Z Z Z Z (.there (.there (.there (.there (.there .here))))) aR bq Z Z Z (RowR.set c aR Z) (fun cL => ?_))
       have ew := iV bq (v := [(Vi 0)])
       refine fb<|gC<|gC<|gC<|gC<|gC<|gC<|gC<|gC<|gC<|gC<|gC<|?_
       have dD := ag.mono az
       have dE := aN.mono az
       have dF := aO.mono az
       exact Sd ⟨_, by exact R10, (gb L c (wI (ad + 1))), (N.set c.toNat [(Vi (wI (ad + 1)))]), (gb D c 0), (V.set c.toNat [(Vi 0)]), S, W, d3, ee, X, E, Y, F, J, P, Z, Z, H, cK, cL, dD, dC, dE, dF⟩
      ·intro aw
       obtain ⟨aw, H⟩ := If aw H
       exact ft<|gC<|gC<|gC<|gC<|gC<|gC<|gC<|gC<|gC<|gC<|gC<|Sd<|⟨_, by exact R10, L, N, D, V, S, W, x, U, X, E, Y, F, J, P, Z, Z, H, t, o, ag, aC, aN, aO⟩
   rintro _ ei _ ex ⟨aV, a2, aW, a3, aX, a4, aJ, aY, a8, aF, a9, aG, aT, aU, rfl, rfl, H, cC, cD, cE, dj, dk, dl⟩
   unfold pM at H
   exact fa<|Em Z<|Er (wI (w + 1)) Z<|Ea Z<|fb<|gC<|gC<|gC<|gC<|gC<|gC<|gC<|gC<|gC<|gC<|gC<|Sd<|⟨_, by exact R10, _, Nat.lt_succ_self _, aV, a2, aW, a3, aX, a4, aJ, aY, (wI (w + 1)), a8, aF, a9, aG, aT, aU, ((fg.mk g.list B C).value), Z, Z, (cV ▸ H), cC, cD, cE, dj, dk, dl⟩
  ·intro bh
   have H := f0 (btf bh) H
   exact f5<|gC<|gC<|gC<|gC<|Pu7<|Pu6<|Re6<|Re6<|Re6<|Re6<|Re6<|Sd<|⟨_, by exact R4, x, U, Z, Z, H, aC⟩
 rintro _ ej _ bk ⟨ak, bw, rfl, rfl, H, dh⟩
 unfold vV at H
 refine fc<|fa<|EL 3 (fq b e f) Z (Rb0 Z)<|Em Z<|Em Z<|?_
 refine fe Z (Sa (fq b e f) Z (.there .here) Z ?_)
 refine Ea Z<|Ea Z<|fb<|fx<|?_
 obtain ⟨en, eo, ep⟩ := jq H
 subst I Q R
 refine ⟨(.inl Z), [(.agg (fq b e f).toArray), (sv h), (sv ak)], ⟨(.agg (fq b e f).toArray), _, Z, ⟨_, 3, (fq b e f), Z, Z, Z, Z, ⟨Z, Rb1 Z⟩, Z⟩, ⟨(sv h), _, Z, Z, ⟨(sv ak), _, Z, Z, Z⟩⟩⟩, ?_⟩
 refine Pu2<|Pu3<|Pu5<|Pu5<|Re4<|Re4<|?_
 have dG := (b0.mono af).mono bk
 have dH := (b1.mono af).mono bk
 have dI := (bv.mono af).mono bk
 exact Sd ⟨e, f, h, aa, ak, Z, Z, dG, dH, dI, dh⟩
theorem DU (p0 : ad8) (R : SV) (p1 p2 p3 : Int) (n : ad8) (H : rL p0 p1 p2 p3 = some n) (K : Kp) (G : List Ent) (ac : Slr f4 K (sv R) p0) :
  Fc Tryz.prog 10 #[(sv R), (Vi p1), (.int .u8 p2), (.int .u8 p3)] K (G) (fun v o w => ∃ (S : SV) (Q : List (List Value)), v = (sv S) ∧ K = o ∧ (.row (sv S) 40 8 Q.flatten) :: G = w ∧ RowR f4 o Q n) := by
 refine fN Tryz.func10 Z Tryz.ntmps10 Tryz.results10 Z ?_
 unfold rL at H
 refine fc<|fa<|Ea Z<|fb<|fc<|fa<|Em Z<|?_
 have ab : RowR f4 K [] [] := RowR.nil
 refine Ow.shift (Shift.nilRow 40 8 (Sd ?_))
 obtain ⟨i, ak, H⟩ := bnd H
 refine fe Z (gZ (T := f4) (bytes := 64) Z Z Z Mb0 ab (SrcT.sl ac) ak Z Z Z Z Z Z Z Z (fun h l f => ⟨_, .here, ?_⟩))
 refine Ea Z<|fb<|fc<|fc<|fa<|Em Z<|Eq Z (lh (T := f4) Mb0 f Z Z Z)<|Ec Z<|fb<|?_
 refine fm Z ?_ ?_
 ·intro t
  obtain ⟨t, H⟩ := It t H
  refine fc<|fa<|Em Z<|Ea Z<|fb<|fx<|?_
  obtain C := gq H
  subst n
  refine ⟨(.inl Z), [(sv h)], ⟨(sv h), _, Z, Z, Z⟩, ?_⟩
  exact Sd ⟨h, l, Z, Z, Z, f⟩
 ·intro t
  obtain ⟨t, H⟩ := If t H
  refine ft<|fc<|fa<|Em Z<|Em Z<|Eq Z (lh (T := f4) Mb0 f Z Z Z)<|?_
  obtain ⟨g, al, H⟩ := bnd H
  refine fe Z (Ek Tryz.call12 Z (yP p1 (i.length : Int) g al _ _ ) ?_)
  rintro _ _ _ - ⟨rfl, rfl, rfl⟩
  refine Ea Z<|fb<|fc<|fc<|fa<|Em Z<|Em Z<|?_
  obtain ⟨am, P, H⟩ := bnd H
  obtain ⟨az, F, aj⟩ := RowR.at f P
  obtain rfl := aj
  refine Eq Z (gP (T := f4) Mb0 f F (fR P).1 Z Z Z Z Z)<|EF 2 Z<|El (.bool am.ret) Z (ib (T := f4) Mb0 f F Z Z)<|Eq Z (gf Z)<|fb<|?_
  refine fm Z ?_ ?_
  ·intro k
   have k := iv k
   have H := f0 (btf k) H
   refine fc<|fa<|Em Z<|Ea Z<|fb<|fx<|?_
   obtain C := gq H
   subst n
   refine ⟨(.inl Z), [(sv h)], ⟨(sv h), _, Z, Z, Z⟩, ?_⟩
   exact Sd ⟨h, l, Z, Z, Z, f⟩
  ·intro k
   have k := ir k
   have H := ift k H
   refine ft ?_
   refine fz (fun U o w => ∃ (B : ad8) (u : List (List Value)), [(9, (sv h))] = U ∧ K = o ∧ (.row (sv h) 40 8 u.flatten) :: G = w ∧ pO B = some n ∧ RowR f4 o u B) ?_ ?_
   ·refine fc<|fa<|Em Z<|Eq Z (tD Z Z (by decide))<|fb<|fA<|fc<|fa<|Ec Z<|Ea Z<|fb<|?_
    refine fm Z ?_ ?_
    ·intro p
     obtain ⟨p, H⟩ := It p H
     refine fa<|Em Z<|Em Z<|Em Z<|Eq Z (tD Z Z (by decide))<|Eq Z (kD (c := wU (Int.tmod p3 12)) Z Z Z Z)<|?_
     obtain ⟨a, I, H⟩ := bnd H
     obtain ⟨ar, x, ad⟩ := RowR.at f I
     obtain rfl := ad
     refine Eq Z (gP (T := f4) Mb0 f x (fR I).1 Z Z Z Z Z)<|EF 3 Z<|EF 5 Z<|?_
     refine fe Z (gX (T := f4) (vs := [(.int .u64 (wU (Int.tmod p3 12)))]) (r' := (fZ (Event.mk a.thread a.op a.ret (Result.mk a.result.kind a.result.case_ (wU (Int.tmod p3 12)) a.result.ok a.result.number)))) (l' := (gb i g (Event.mk a.thread a.op a.ret (Result.mk a.result.kind a.result.case_ (wU (Int.tmod p3 12)) a.result.ok a.result.number)))) Z Z Z Z Z .here f x Z Z Z (RowR.set g f Z) (fun W => ?_))
     have an := iV x (v := (fZ (Event.mk a.thread a.op a.ret (Result.mk a.result.kind a.result.case_ (wU (Int.tmod p3 12)) a.result.ok a.result.number))))
     exact fb<|Sd<|⟨_, by exact R1, (gb i g (Event.mk a.thread a.op a.ret (Result.mk a.result.kind a.result.case_ (wU (Int.tmod p3 12)) a.result.ok a.result.number))), (l.set g.toNat (fZ (Event.mk a.thread a.op a.ret (Result.mk a.result.kind a.result.case_ (wU (Int.tmod p3 12)) a.result.ok a.result.number)))), Z, Z, Z, H, W⟩
    ·intro p
     obtain ⟨p, H⟩ := If p H
     refine fc<|fa<|Ec Z<|Ea Z<|fb<|?_
     refine fm Z ?_ ?_
     ·intro q
      obtain ⟨q, H⟩ := It q H
      refine fa<|Em Z<|Em Z<|Em Z<|Em Z<|?_
      obtain ⟨m, J, H⟩ := bnd H
      obtain ⟨au, D, ae⟩ := RowR.at f J
      obtain rfl := ae
      refine Eq Z (gP (T := f4) Mb0 f D (fR J).1 Z Z Z Z Z)<|EF 3 Z<|EF 6 Z<|El (.bool m.result.ok) Z (ib (T := f4) Mb0 f D Z Z)<|Eq Z (gf Z)<|?_
      obtain ⟨b, L, H⟩ := bnd H
      obtain ⟨av, y, af⟩ := RowR.at f L
      obtain rfl := af
      refine Eq Z (gP (T := f4) Mb0 f y (fR L).1 Z Z Z Z Z)<|EF 3 Z<|EF 6 Z<|?_
      refine fe Z (gX (T := f4) (vs := [(.bool (!(m.result.ok)))]) (r' := (fZ (Event.mk b.thread b.op b.ret (Result.mk b.result.kind b.result.case_ b.result.value (!(m.result.ok)) b.result.number)))) (l' := (gb i g (Event.mk b.thread b.op b.ret (Result.mk b.result.kind b.result.case_ b.result.value (!(m.result.ok)) b.result.number)))) Z Z Z Z Z .here f y Z Z Z (RowR.set g f Z) (fun X => ?_))
      have ao := iV y (v := (fZ (Event.mk b.thread b.op b.ret (Result.mk b.result.kind b.result.case_ b.result.value (!(m.result.ok)) b.result.number))))
      exact fb<|Sd<|⟨_, by exact R1, (gb i g (Event.mk b.thread b.op b.ret (Result.mk b.result.kind b.result.case_ b.result.value (!(m.result.ok)) b.result.number))), (l.set g.toNat (fZ (Event.mk b.thread b.op b.ret (Result.mk b.result.kind b.result.case_ b.result.value (!(m.result.ok)) b.result.number)))), Z, Z, Z, H, X⟩
     ·intro q
      obtain ⟨q, H⟩ := If q H
      refine fc<|fa<|Ec Z<|Ea Z<|fb<|?_
      refine fm Z ?_ ?_
      ·intro r
       obtain ⟨r, H⟩ := It r H
       refine fa<|Em Z<|Em Z<|Em Z<|Eq Z (kD (c := wI p3) Z Z Z Z)<|Eq Z (tD Z Z (by decide))<|Er (wI (1 + (Int.tmod (wI p3) 7))) Z<|?_
       obtain ⟨d, M, H⟩ := bnd H
       obtain ⟨aw, z, ag⟩ := RowR.at f M
       obtain rfl := ag
       refine Eq Z (gP (T := f4) Mb0 f z (fR M).1 Z Z Z Z Z)<|EF 3 Z<|EF 3 Z<|?_
       refine fe Z (gX (T := f4) (vs := [(Vi (wI (1 + (Int.tmod (wI p3) 7))))]) (r' := (fZ (Event.mk d.thread d.op d.ret (Result.mk (wI (1 + (Int.tmod (wI p3) 7))) d.result.case_ d.result.value d.result.ok d.result.number)))) (l' := (gb i g (Event.mk d.thread d.op d.ret (Result.mk (wI (1 + (Int.tmod (wI p3) 7))) d.result.case_ d.result.value d.result.ok d.result.number)))) Z Z Z Z Z .here f z Z Z Z (RowR.set g f Z) (fun Y => ?_))
       have ap := iV z (v := (fZ (Event.mk d.thread d.op d.ret (Result.mk (wI (1 + (Int.tmod (wI p3) 7))) d.result.case_ d.result.value d.result.ok d.result.number))))
       exact fb<|Sd<|⟨_, by exact R1, (gb i g (Event.mk d.thread d.op d.ret (Result.mk (wI (1 + (Int.tmod (wI p3) 7))) d.result.case_ d.result.value d.result.ok d.result.number))), (l.set g.toNat (fZ (Event.mk d.thread d.op d.ret (Result.mk (wI (1 + (Int.tmod (wI p3) 7))) d.result.case_ d.result.value d.result.ok d.result.number)))), Z, Z, Z, H, Y⟩
      ·intro r
       obtain ⟨r, H⟩ := If r H
       refine fc<|fa<|Ec Z<|Ea Z<|fb<|?_
       refine fm Z ?_ ?_
       ·intro s
        obtain ⟨s, H⟩ := It s H
        refine fa<|Em Z<|Em Z<|?_
        obtain ⟨j, N, H⟩ := bnd H
        obtain ⟨ax, E, ah⟩ := RowR.at f N
        obtain rfl := ah
        refine Eq Z (gP (T := f4) Mb0 f E (fR N).1 Z Z Z Z Z)<|EF 3 Z<|EF 7 Z<|El (Vi j.result.number) Z (ib (T := f4) Mb0 f E Z Z)<|Em Z<|Eq Z (kD (c := wI p3) Z Z Z Z)<|Eq Z (tD Z Z (by decide))<|Er (wI ((Int.tmod (wI p3) 3) - 1)) Z<|Er (wI (j.result.number + (wI ((Int.tmod (wI p3) 3) - 1)))) Z<|?_
        obtain ⟨e, O, H⟩ := bnd H
        obtain ⟨ay, A, ai⟩ := RowR.at f O
        obtain rfl := ai
        refine Eq Z (gP (T := f4) Mb0 f A (fR O).1 Z Z Z Z Z)<|EF 3 Z<|EF 7 Z<|?_
        refine fe Z (gX (T := f4) (vs := [(Vi (wI (j.result.number + (wI ((Int.tmod (wI p3) 3) - 1)))))]) (r' := (fZ (Event.mk e.thread e.op e.ret (Result.mk e.result.kind e.result.case_ e.result.value e.result.ok (wI (j.result.number + (wI ((Int.tmod (wI p3) 3) - 1)))))))) (l' := (gb i g (Event.mk e.thread e.op e.ret (Result.mk e.result.kind e.result.case_ e.result.value e.result.ok (wI (j.result.number + (wI ((Int.tmod (wI p3) 3) - 1)))))))) Z Z Z Z Z .here f A Z Z Z (RowR.set g f Z) (fun aa => ?_))
        have aq := iV A (v := (fZ (Event.mk e.thread e.op e.ret (Result.mk e.result.kind e.result.case_ e.result.value e.result.ok (wI (j.result.number + (wI ((Int.tmod (wI p3) 3) - 1))))))))
        exact fb<|Sd<|⟨_, by exact R1, (gb i g (Event.mk e.thread e.op e.ret (Result.mk e.result.kind e.result.case_ e.result.value e.result.ok (wI (j.result.number + (wI ((Int.tmod (wI p3) 3) - 1))))))), (l.set g.toNat (fZ (Event.mk e.thread e.op e.ret (Result.mk e.result.kind e.result.case_ e.result.value e.result.ok (wI (j.result.number + (wI ((Int.tmod (wI p3) 3) - 1)))))))), Z, Z, Z, H, aa⟩
       ·intro s
        obtain ⟨s, H⟩ := If s H
        exact ft<|Sd<|⟨_, by exact R1, i, l, Z, Z, Z, H, f⟩
   rintro _ _ _ - ⟨B, u, rfl, rfl, rfl, H, V⟩
   unfold pO at H
   refine fc<|fa<|Em Z<|Ea Z<|fb<|fx<|?_
   obtain C := gq H
   subst n
   refine ⟨(.inl Z), [(sv h)], ⟨(sv h), _, Z, Z, Z⟩, ?_⟩
   exact Sd ⟨h, u, Z, Z, Z, V⟩
theorem yY (s : Nat) (E : af0) (l : SV) (f : Bool) (h : Nat) (A : ae0) (y : SV) (C : ad0) (i : Nat) (t : Array MapEntry) (B : Nat) (D : ad9) (j : SV) (x : List (List Value)) (p1 : ad2) (P : SV) (p2 p3 : Int) (g : fp) (r : Bool) (H : rX E f A C D p1 p2 p3 = some (g, r)) (K : Kp) (G : List Ent) (u : Slr (Ty.sl fM) K (sv l) E) (an : Slr fJ K (sv y) A) (ao : MapR Ty.bool Value.string K t C) (ap : RowR fO K x D) (w : Slr Ty.i64 K (sv P) p1) :
  Fc Tryz.prog 59 #[(Vp s), (sv P), (Vi p2), (Vi p3)] K ((.blk s 84 [(sv l), (.bool f), (.func (.func 38) #[] #[(Vp h)]), (.map (some i)), (sv j)]) :: (.blk h 58 [(sv y)]) :: (.obj i (.map t B)) :: (.row (sv j) 67 6 x.flatten) :: G) (fun v m z => ∃ (Q R : SV), v = (.tuple #[(.agg (fh g Q R).toArray), (.bool r)]) ∧ K = m ∧ (.blk h 58 [(sv y)]) :: (.blk s 84 [(sv l), (.bool f), (.func (.func 38) #[] #[(Vp h)]), (.map (some i)), (sv j)]) :: (.obj i (.map t B)) :: (.row (sv j) 67 6 x.flatten) :: G = z ∧ Slr fW m (sv Q) g.op.cases ∧ Slr Ty.i64 m (sv R) g.op.draws) := by
 refine fN Tryz.func59 Z Tryz.ntmps59 Tryz.results59 Z ?_
 unfold rX at H
 refine fc<|fa<|?_
 refine fe Z (fD (cs := (fh (fp.mk (Op.mk 0 0 0 0 0 [] []) (Result.mk 0 0 0 false 0) 0 0) fB fB)) Z Z Z Z (fun F => ?_))
 refine Ea Z<|fb<|fc<|fc<|?_
 obtain ⟨al, N, H⟩ := bnd H
 obtain ⟨aw, O, H⟩ := bnd H
 refine fw _ Z (Ic Mb0 (Ic Mb1 (Ic Mb2 (Ic Mb3 (Ic Mb4 In0)))))<|Jm 0 Z<|Jm 1 Z<|?_
 obtain ⟨_, rfl, W⟩ := Slr.at w N
 refine Jq 2 Z (Qi (T := Ty.i64) w N Z)<|Jl 3 (Vi al) Z (Rdc.k W Z)<|Jm 4 Z<|Jq 5 Z (fC Z)<|JF 6 0 Z<|Jl 7 (sv l) Z (Rb1 Z)<|Jm 8 Z<|?_
 obtain ⟨aq, ac, X⟩ := Slr.at u O
 obtain ⟨ai, rfl, af⟩ := ac
 refine Jq 9 Z (Qi (T := (Ty.sl fM)) u O Z)<|Jl 10 (sv ai) Z (Rdc.k X Z)<|Jq 11 Z (ge (T := fM) af Z Z)<|Jc 12 Z<|Ad<|?_
 refine fm Z ?_ ?_
 ·intro n
  obtain ⟨n, H⟩ := It n H
  refine fc<|fa<|Eq Z (fG (cs := (fh (fp.mk (Op.mk 0 0 0 0 0 [] []) (Result.mk 0 0 0 false 0) 0 0) fB fB)) Z Z Z Z Z Z)<|?_
  refine fe Z (Sa (fh (fp.mk (Op.mk 0 0 0 0 0 [] []) (Result.mk 0 0 0 false 0) 0 0) fB fB) Z .here Z ?_)
  refine Ea Z<|fb<|fx<|?_
  obtain ⟨U, V⟩ := ic H
  subst g r
  refine ⟨(.inl Z), [(.agg (fh (fp.mk (Op.mk 0 0 0 0 0 [] []) (Result.mk 0 0 0 false 0) 0 0) fB fB).toArray), (.bool false)], ⟨(.agg (fh (fp.mk (Op.mk 0 0 0 0 0 [] []) (Result.mk 0 0 0 false 0) 0 0) fB fB).toArray), _, Z, ⟨_, 14, (fh (fp.mk (Op.mk 0 0 0 0 0 [] []) (Result.mk 0 0 0 false 0) 0 0) fB fB), Z, Z, Z, Z, ⟨Z, Rb0 Z⟩, Z⟩, ⟨(.bool false), _, Z, Z, Z⟩⟩, ?_⟩
  exact Pu4<|Pu4<|Pu3<|Pu4<|Re4<|Sd<|⟨fB, fB, Z, Z, Z, (Slr.nil fW _), (Slr.nil Ty.i64 _)⟩
 ·intro n
  obtain ⟨n, H⟩ := If n H
  refine ft<|fc<|?_
  obtain ⟨av, J, H⟩ := bnd H
  obtain ⟨ak, L, H⟩ := bnd H
  obtain ⟨a, M, H⟩ := bnd H
  refine fw _ Z (Ic Mb0 (Ic Mb1 (Ic Mb2 (Ic Mb3 (Ic Mb4 In0)))))<|Jm 0 Z<|Jq 1 Z (fC Z)<|JF 2 0 Z<|Jl 3 (sv l) Z (Rb1 Z)<|Jm 4 Z<|?_
  obtain ⟨ar, ad, Y⟩ := Slr.at u J
  obtain ⟨aj, rfl, I⟩ := ad
  refine Jq 5 Z (Qi (T := (Ty.sl fM)) u J Z)<|Jl 6 (sv aj) Z (Rdc.k Y Z)<|Jm 7 Z<|Jm 8 Z<|?_
  obtain ⟨_, rfl, aa⟩ := Slr.at w L
  refine Jq 9 Z (Qi (T := Ty.i64) w L Z)<|Jl 10 (Vi ak) Z (Rdc.k aa Z)<|?_
  obtain ⟨au, ae, ab⟩ := Slr.at I M
  obtain ⟨b, c, rfl, ag, ah⟩ := ae
  refine Jq 11 Z (Qi (T := fM) I M Z)<|JL 12 14 (fh a b c) Z (Rdc.k ab Z)<|?_
  refine Ao 13 Z ?_
  refine fD (cs := (fh (fp.mk (Op.mk 0 0 0 0 0 [] []) (Result.mk 0 0 0 false 0) 0 0) fB fB)) Z Z Z Z (fun am => ⟨(Ic Mb1 (Ic Mb2 (Ic Mb3 (Ic Mb4 (Ic Mb5 In0))))), ?_⟩)
  refine Ao 14 Z ?_
  refine Sa (fh a b c) Z .here Z ⟨(Ic Mb1 (Ic Mb2 (Ic Mb3 (Ic Mb4 (Ic Mb5 In0))))), ?_⟩
  refine Ad ?_
  refine fz (fun S m z => ∃ (q : Bool), [(8, (Vp F)), (9, (.bool q))] = S ∧ K = m ∧ (.blk s 84 [(sv l), (.bool f), (.func (.func 38) #[] #[(Vp h)]), (.map (some i)), (sv j)]) :: (.blk h 58 [(sv y)]) :: (.blk F 120 (fh a b c)) :: (.obj i (.map t B)) :: (.row (sv j) 67 6 x.flatten) :: G = z ∧ rW E f D A a C q = some (g, r)) ?_ ?_
  ·rcases gY (dcd (a.called < p3)) with p | p <;> revert p
   ·intro e
    obtain ⟨e, H⟩ := It e H
    rcases gY f with p | p <;> revert p
    ·intro o
     have H := ift o H
     refine fw _ Z (Ic Mb0 (Ic Mb2 (Ic Mb3 (Ic Mb4 (Ic Mb5 In0)))))<|JL 0 14 (fh a b c) Z (Rb0 Z)<|JF 1 12 Z<|Jl 2 (Vi a.called) Z (Rb0 Z)<|Jm 3 Z<|Jc 4 Z<|Jm 5 Z<|Aw.known (d := 43) Z (hX e)<|Bm 6 Z<|Bq 7 Z (fC Z)<|BF 8 1 Z<|Bl 9 (.bool f) Z (Rb1 Z)<|Bm 10 Z<|Aw.known (d := 48) Z (o)<|Jz 11 Z<|Jz 12 Z<|Jz 13 Z<|Bt 14 Z<|Jt 15 Z<|?_
     refine Ao 16 Z ?_
     refine Sa (fh a b c) Z (.there .here) Z ⟨(Ic Mb0 (Ic Mb2 (Ic Mb3 (Ic Mb4 (Ic Mb5 In0))))), ?_⟩
     exact Ja 17 Z<|Ad<|Pu5<|Pu5<|Pu3<|Pu5<|Pu5<|Re5<|Sd<|⟨_, by exact R2, true, Z, Z, Z, H⟩
    ·intro o
     have H := f0 (btf o) H
     refine fw _ Z (Ic Mb0 (Ic Mb2 (Ic Mb3 (Ic Mb4 (Ic Mb5 In0)))))<|JL 0 14 (fh a b c) Z (Rb0 Z)<|JF 1 12 Z<|Jl 2 (Vi a.called) Z (Rb0 Z)<|Jm 3 Z<|Jc 4 Z<|Jm 5 Z<|Aw.known (d := 43) Z (hX e)<|Bm 6 Z<|Bq 7 Z (fC Z)<|BF 8 1 Z<|Bl 9 (.bool f) Z (Rb1 Z)<|Bm 10 Z<|Aw.known (d := 48) Z (o)<|BF 11 13 Z<|Bl 12 (Vi a.coming) Z (Rb0 Z)<|Bc 13 Z<|Bf 14 Z<|Jt 15 Z<|?_
     refine Ao 16 Z ?_
     refine Sa (fh a b c) Z (.there .here) Z ⟨(Ic Mb0 (Ic Mb2 (Ic Mb3 (Ic Mb4 (Ic Mb5 In0))))), ?_⟩
     exact Ja 17 Z<|Ad<|Pu5<|Pu5<|Pu3<|Pu5<|Pu5<|Re5<|Sd<|⟨_, by exact R2, (dcd (a.coming ≥ 0)), Z, Z, Z, H⟩
   ·intro e
    obtain ⟨e, H⟩ := If e H
    refine fw _ Z (Ic Mb0 (Ic Mb2 (Ic Mb3 (Ic Mb4 (Ic Mb5 In0)))))<|JL 0 14 (fh a b c) Z (Rb0 Z)<|JF 1 12 Z<|Jl 2 (Vi a.called) Z (Rb0 Z)<|Jm 3 Z<|Jc 4 Z<|Jm 5 Z<|Aw.known (d := 43) Z (iE e)<|Jz 6 Z<|Jz 7 Z<|Jz 8 Z<|Jz 9 Z<|Jz 10 Z<|gK 11 Z (by kernel_rfl) (by kernel_rfl) (by kernel_rfl) Z Z Z Z rfl<|gK 12 Z (by kernel_rfl) (by kernel_rfl) (by kernel_rfl) Z Z Z Z rfl<|gK 13 Z (by kernel_rfl) (by kernel_rfl) (by kernel_rfl) Z Z Z Z rfl<|Jz 14 Z<|Jf 15 Z<|?_
    refine Ao 16 Z ?_
    refine Sa (fh a b c) Z (.there .here) Z ⟨(Ic Mb0 (Ic Mb2 (Ic Mb3 (Ic Mb4 (Ic Mb5 In0))))), ?_⟩
    exact Ja 17 Z<|Ad<|Pu5<|Pu5<|Pu3<|Pu5<|Pu5<|Re5<|Sd<|⟨_, by exact R2, false, Z, Z, Z, H⟩
  rintro _ _ _ - ⟨q, rfl, rfl, rfl, H⟩
  unfold rW at H
  refine fx ?_
  obtain ⟨U, V⟩ := ic H
  subst g r
  refine ⟨(.inl Z), [(.agg (fh a b c).toArray), (.bool q)], ⟨(.agg (fh a b c).toArray), _, Z, ⟨_, 14, (fh a b c), Z, Z, Z, Z, ⟨Z, Rb2 Z⟩, Z⟩, ⟨(.bool q), _, Z, Z, Z⟩⟩, ?_⟩
  exact Pu4<|Pu4<|Pu2<|Pu3<|Re4<|Sd<|⟨b, c, Z, Z, Z, ag, ah⟩
theorem yZ (rc : ad3) (ih : ∀ (d : Nat) (r : af0) (e : SV) (c : Bool) (a : Nat) (n : ae0) (i : SV) (q : ad0) (b : Nat) (o : Array MapEntry) (z : Nat) (f : ad9) (g : SV) (x : List (List Value)) (p1 : ad2) (C : SV) (p2 : ad1) (s : SV) (l : Bool) (m : ad9) (j : ad0) (H : rc r c n q f p1 p2 = some (l, m, j)) (K : Kp) (G : List Ent) (ag : Slr (Ty.sl fM) K (sv e) r) (ad : Slr fJ K (sv i) n) (ae : MapR Ty.bool Value.string K o q) (af : RowR fO K x f) (ah : Slr Ty.i64 K (sv C) p1) (ai : Slr fH K (sv s) p2) (hT : li K), Fc Tryz.prog 29 #[(Vp d), (sv C), (sv s)] K ((.blk d 84 [(sv e), (.bool c), (.func (.func 38) #[] #[(Vp a)]), (.map (some b)), (sv g)]) :: (.blk a 58 [(sv i)]) :: (.obj b (.map o z)) :: (.row (sv g) 67 6 x.flatten) :: G) (fun v h u => ∃ (O : SV) (J : List (List Value)) (D : Array MapEntry) (S : Nat), v = (.bool l) ∧ (.blk a 58 [(sv i)]) :: (.blk d 84 [(sv e), (.bool c), (.func (.func 38) #[] #[(Vp a)]), (.map (some b)), (sv O)]) :: (.row (sv O) 67 6 J.flatten) :: (.obj b (.map D S)) :: G = u ∧ RowR fO h J m ∧ MapR Ty.bool Value.string h D j)) (d : Nat) (r : af0) (e : SV) (c : Bool) (a : Nat) (n : ae0) (i : SV) (q : ad0) (b : Nat) (o : Array MapEntry) (z : Nat) (f : ad9) (g : SV) (x : List (List Value)) (p1 : ad2) (C : SV) (p2 : ad1) (s : SV) (p3 : ad9) (N : SV) (l : Bool) (m : ad9) (j : ad0) (H : rY rc r c n q f p1 p2 p3 = some (l, m, j)) (K : Kp) (G : List Ent) (ag : Slr (Ty.sl fM) K (sv e) r) (ad : Slr fJ K (sv i) n) (ae : MapR Ty.bool Value.string K o q) (af : RowR fO K x f) (ah : Slr Ty.i64 K (sv C) p1) (ai : Slr fH K (sv s) p2) (P : Slr fO K (sv N) p3) (hT : li K) :
  Fc Tryz.prog 62 #[(Vp d), (sv C), (sv s), (sv N)] K ((.blk d 84 [(sv e), (.bool c), (.func (.func 38) #[] #[(Vp a)]), (.map (some b)), (sv g)]) :: (.blk a 58 [(sv i)]) :: (.obj b (.map o z)) :: (.row (sv g) 67 6 x.flatten) :: G) (fun v h u => ∃ (O : SV) (J : List (List Value)) (D : Array MapEntry) (S : Nat), v = (.bool l) ∧ (.blk a 58 [(sv i)]) :: (.blk d 84 [(sv e), (.bool c), (.func (.func 38) #[] #[(Vp a)]), (.map (some b)), (sv O)]) :: (.row (sv O) 67 6 J.flatten) :: (.obj b (.map D S)) :: G = u ∧ RowR fO h J m ∧ MapR Ty.bool Value.string h D j) := by
 refine fN Tryz.func62 Z Tryz.ntmps62 Tryz.results62 Z ?_
 unfold rY at H
 refine fc<|fa<|Ea Z<|fb<|fc<|fa<|Em Z<|?_
 obtain ⟨aq, aP, H⟩ := bnd H
 refine fe Z (Ek Tryz.call100 Z (yW p1 C aq aP _ _ ah) ?_)
 rintro _ _ _ - ⟨M, aR, rfl, rfl, rfl, aE⟩
 refine Ea Z<|fb<|?_
 refine fz (fun U h u => ∃ (R : ad2) (Y : List (List Value)), [(0, (Vp d)), (2, (sv s)), (3, (sv N)), (9, (sv M))] = U ∧ (.blk d 84 [(sv e), (.bool c), (.func (.func 38) #[] #[(Vp a)]), (.map (some b)), (sv g)]) :: (.blk a 58 [(sv i)]) :: (.row (sv M) 3 1 Y.flatten) :: (.obj b (.map o z)) :: (.row (sv g) 67 6 x.flatten) :: G = u ∧ Ag p2 p3 r c f n q rc R = some (l, m, j) ∧ RowR Ty.i64 h Y R) ?_ ?_
 ·refine fc<|fa<|Em Z<|Eq Z (ge (T := fO) P Z Z)<|Em Z<|fb<|fA<|?_
  refine fY (fun n210 U h u => ∃ (B : ad2) (I : List (List Value)) (F : Int), [(0, (Vp d)), (2, (sv s)), (3, (sv N)), (9, (sv M)), (15, (sv N)), (16, (Vi (p3.length : Int))), (17, (Vi F))] = U ∧ K = h ∧ (.blk d 84 [(sv e), (.bool c), (.func (.func 38) #[] #[(Vp a)]), (.map (some b)), (sv g)]) :: (.blk a 58 [(sv i)]) :: (.row (sv M) 3 1 I.flatten) :: (.obj b (.map o z)) :: (.row (sv g) 67 6 x.flatten) :: G = u ∧ lp2 (Ah p2 p3 r c f n q rc) n210 B F = some (l, m, j) ∧ RowR Ty.i64 h I B) BIG ?_ ?_
  ·exact Pu4<|Pu4<|Pu2<|Pu4<|Pu4<|Sd<|⟨_, by exact R7, aq, aR, 0, Z, Z, Z, H, aE⟩
  rintro n210 _ _ _ - ⟨B, I, F, rfl, rfl, rfl, H, p⟩
  obtain ⟨a3, a2, rfl, aB, H⟩ := jC H
  unfold Ah at H
  refine fc<|fa<|Ec Z<|fb<|fc<|?_
  refine fm Z ?_ ?_
  ·intro E
   obtain ⟨E, H⟩ := It E H
   refine ft<|fc<|fA<|fc<|fa<|?_
   obtain ⟨y, am, H⟩ := bnd H
   obtain ⟨_, rfl, aA⟩ := Slr.at P am
   refine Eq Z (Qi (T := fO) P am Z)<|EL 6 (fF y) Z (Rdc.k aA Z)<|?_
   refine fe Z (fD (cs := (fF (Done.mk 0 (Result.mk 0 0 0 false 0)))) Z Z Z Z (fun aZ => ?_))
   refine fe Z (Sa (fF y) Z .here Z ?_)
   refine fb<|fa<|Em Z<|EF 0 Z<|El (Vi y.thread) Z (Rb0 Z)<|?_
   obtain ⟨t, an, H⟩ := bnd H
   obtain ⟨a4, aj, aC⟩ := RowR.at p an
   obtain rfl := aC
   refine Eq Z (gP (T := Ty.i64) Mb3 p aj (fR an).1 Z Z Z Z Z)<|El (Vi t) Z (ib (T := Ty.i64) Mb3 p aj Z Z)<|Er (wI (t + 1)) Z<|?_
   obtain ⟨a6, ao, H⟩ := bnd H
   obtain ⟨a5, W, aD⟩ := RowR.at p ao
   obtain rfl := aD
   refine Eq Z (gP (T := Ty.i64) Mb3 p W (fR ao).1 Z Z Z Z Z) ?_
   refine fe Z (gX (T := Ty.i64) (vs := [(Vi (wI (t + 1)))]) (r' := [(Vi (wI (t + 1)))]) (l' := (gb B y.thread (wI (t + 1)))) Z Z Z Z Z (.there (.there (.there .here))) p W Z Z Z (RowR.set y.thread p Z) (fun ax => ?_))
   have a0 := iV W (v := [(Vi (wI (t + 1)))])
   exact fb<|fa<|Er (wI (F + 1)) Z<|Em Z<|fb<|Pu5<|Pu5<|Pu5<|Pu5<|Pu5<|Re5<|Sd<|⟨_, by exact R7, _, Nat.lt_succ_self _, (gb B y.thread (wI (t + 1))), (I.set y.thread.toNat [(Vi (wI (t + 1)))]), (wI (F + 1)), Z, Z, Z, (aB ▸ H), ax⟩
  ·intro E
   obtain ⟨E, H⟩ := If E H
   exact f5<|Pu4<|Pu4<|Pu4<|Pu4<|Pu4<|Sd<|⟨_, by exact R4, B, I, Z, Z, H, p⟩
 rintro _ aW _ w ⟨R, Y, rfl, rfl, H, aw⟩
 unfold Ag at H
 refine fc<|fa<|Em Z<|Eq Z (fC Z)<|EF 4 Z<|El (sv g) Z (Rb0 Z)<|?_
 have ak := af.mono w
 refine Eq Z (lh (T := fO) Mb4 ak Z Z Z)<|Ea Z<|fb<|fc<|fa<|Em Z<|Em Z<|Eq Z (fC Z)<|EF 4 Z<|El (sv g) Z (Rb0 Z)<|Em Z<|?_
 obtain ⟨aS, aN, H⟩ := bnd H
 have aF := P.mono w
 refine fe Z (gZ (T := fO) (bytes := 48) Z Z Z Mb4 ak (SrcT.sl aF) aN Z Z Z Z Z Z Z Z (fun aa aQ ay => ⟨_, (.there (.there (.there (.there .here)))), ?_⟩))
 refine Eq Z (fC Z)<|EF 4 Z<|?_
 refine fe Z (So [(sv aa)] [(sv e), (.bool c), (.func (.func 38) #[] #[(Vp a)]), (.map (some b)), (sv aa)] Z .here Z ?_)
 refine fb<|fc<|fc<|fa<|Em Z<|Em Z<|Em Z<|?_
 refine Ow.shift (Shift.settle (T := Ty.i64) (.there (.there .here)) aw Z (fun aX A aG => Sd ?_))
 obtain ⟨aT, aU, aV, aO, H⟩ := j7 H
 refine Ow.shift (Pu4 (Sd ?_))
 refine Ow.shift (Pu4 (Sd ?_))
 refine Ow.shift (Pu3 (Sd ?_))
 refine Ow.shift (Pu3 (Sd ?_))
 have aH := (ag.mono w).mono A
 have aI := (ad.mono w).mono A
 have aJ := (ae.mono w).mono A
 have aK := ay.mono A
 have aL := (ai.mono w).mono A
 have aM := (hT.mono w).mono A
 refine fe Z (Ek Tryz.call29 Z (ih d r e c a n i q b o z aS aa aQ R M p2 s aT aU aV aO _ _ aH aI aJ aK aG aL aM) ?_)
 rintro _ aY _ a1 ⟨L, ap, ac, ab, rfl, rfl, Q, al⟩
 refine fb ?_
 refine fm Z ?_ ?_
 ·intro V
  have H := ift V H
  refine fc<|fa<|Ea Z<|fb<|fx<|?_
  obtain ⟨au, av, ar⟩ := jq H
  subst l m j
  refine ⟨(.inl Z), [(.bool true)], ⟨(.bool true), _, Z, Z, Z⟩, ?_⟩
  exact Pu3<|Pu3<|Pu3<|Pu3<|Re4<|Sd<|⟨L, ap, ac, ab, Z, Z, Q, al⟩
 ·intro V
  have H := f0 (btf V) H
  refine ft<|fc<|fa<|Em Z<|Em Z<|Eq Z (fC Z)<|EF 4 Z<|El (sv L) Z (Rb1 Z)<|Em Z<|?_
  obtain ⟨a7, X, H⟩ := bnd H
  refine Eq Z (AT (T := fO) Mb2 Q Z X Z Z Z Z)<|Eq Z (fC Z)<|EF 4 Z<|?_
  refine Ow.shift (Pu2 (Sd ?_))
  have az := RowR.cutH Q X
  refine Ow.shift (Shift.cutRow (T := fO) Q Z X (Sd ?_))
  refine fe Z (So [(sv (iR L 6 0 (f.length : Int).toNat))] [(sv e), (.bool c), (.func (.func 38) #[] #[(Vp a)]), (.map (some b)), (sv (iR L 6 0 (f.length : Int).toNat))] Z (.there (.there .here)) Z ?_)
  refine fb<|fc<|fa<|Ea Z<|fb<|fx<|?_
  obtain ⟨au, av, ar⟩ := jq H
  subst l m j
  refine ⟨(.inl Z), [(.bool false)], ⟨(.bool false), _, Z, Z, Z⟩, ?_⟩
  exact Pu3<|Pu1<|Pu3<|Pu3<|Re4<|Sd<|⟨(iR L 6 0 (f.length : Int).toNat), (ap.take (f.length : Int).toNat), ac, ab, Z, Z, az, al⟩
theorem Bi (fu : Nat) : ∀ (g : Nat) (d : af0) (j : SV) (e : Bool) (b : Nat) (o : ae0) (p : SV) (Y : ad0) (c : Nat) (L : Array MapEntry) (P : Nat) (aa : ad9) (J : SV) (N : List (List Value)) (p1 : ad2) (y : SV) (p2 : ad1) (z : SV) (w : Bool) (x : ad9) (u : ad0) (H : s6 fu d e o Y aa p1 p2 = some (w, x, u)) (K : Kp) (G : List Ent) (a6 : Slr (Ty.sl fM) K (sv j) d) (aK : Slr fJ K (sv p) o) (aL : MapR Ty.bool Value.string K L Y) (ax : RowR fO K N aa) (a7 : Slr Ty.i64 K (sv y) p1) (a8 : Slr fH K (sv z) p2) (hT : li K),
  Fc Tryz.prog 29 #[(Vp g), (sv y), (sv z)] K ((.blk g 84 [(sv j), (.bool e), (.func (.func 38) #[] #[(Vp b)]), (.map (some c)), (sv J)]) :: (.blk b 58 [(sv p)]) :: (.obj c (.map L P)) :: (.row (sv J) 67 6 N.flatten) :: G) (fun v f h => ∃ (cu : SV) (cq : List (List Value)) (bX : Array MapEntry) (cH : Nat), v = (.bool w) ∧ (.blk b 58 [(sv p)]) :: (.blk g 84 [(sv j), (.bool e), (.func (.func 38) #[] #[(Vp b)]), (.map (some c)), (sv cu)]) :: (.row (sv cu) 67 6 cq.flatten) :: (.obj c (.map bX cH)) :: G = h ∧ RowR fO f cq x ∧ MapR Ty.bool Value.string f bX u) := by
 induction fu with
 | zero => intro g d j e b o p Y c L P aa J N p1 y p2 z w x u H K G a6 aK aL ax a7 a8 hT; cases H
 | succ fu ih =>
 intro g d j e b o p Y c L P aa J N p1 y p2 z w x u H K G a6 aK aL ax a7 a8 hT
 have H : rZ (s6 fu) d e o Y aa p1 p2 = some (w, x, u) := H
 generalize s6 fu = rc at H ih
 refine fN Tryz.func29 Z Tryz.ntmps29 Tryz.results29 Z ?_
 unfold rZ at H
 refine fc<|fa<|Ea Z<|fb<|fc<|fa<|Em Z<|Em Z<|?_
 obtain ⟨cB, dW, dJ, H⟩ := iw H
 refine Ow.shift (Pu3 (Sd ?_))
 refine Ow.shift (Pu3 (Sd ?_))
 refine Ow.shift (Pu3 (Sd ?_))
 refine Ow.shift (Pu3 (Sd ?_))
 refine fe Z (Ek Tryz.call57 Z (Ej g d j e b o p Y c L P aa J N p1 y cB dW dJ _ _ a6 aK aL ax a7) ?_)
 rintro _ eb _ E ⟨rfl, rfl⟩
 refine Em Z<|Ex Z<|Ex Z<|Ea Z<|Ea Z<|fb<|?_
 refine fz (fun s f h => ∃ (i : Int), [(0, (Vp g)), (1, (sv y)), (2, (sv z)), (7, (Vi i))] = s ∧ (.blk g 84 [(sv j), (.bool e), (.func (.func 38) #[] #[(Vp b)]), (.map (some c)), (sv J)]) :: (.blk b 58 [(sv p)]) :: (.obj c (.map L P)) :: (.row (sv J) 67 6 N.flatten) :: G = h ∧ oP p1 p2 d e aa o Y rc i = some (w, x, u)) ?_ ?_
 ·refine fc<|fa<|Em Z<|Eq Z (gf Z)<|fb<|?_
  refine fm Z ?_ ?_
  ·intro ag
   have ag := iv ag
   have H := f0 (btf ag) H
   refine fc<|fc<|fa<|Em Z<|Eq Z (fC Z)<|EF 2 Z<|El (.func (.func 38) #[] #[(Vp b)]) Z (Rb1 Z)<|Eq Z (B6 Z Z Z)<|Em Z<|Vm Z<|Vq Z (fC Z)<|VF 2 Z<|Vl (.func (.func 38) #[] #[(Vp b)]) Z (Rb1 Z)<|Vm Z<|?_
   obtain ⟨dX, dK, H⟩ := bnd H
   have dx := a8.mono E
   have dy := aK.mono E
   refine hQ Z Z Z Z (Ek Tryz.call38 Z (Dx p2 z b o p dX dK _ _ dx dy) ?_)
   rintro _ ec _ bY ⟨rfl, rfl⟩
   refine Ef Z<|fb<|?_
   refine fm Z ?_ ?_
   ·intro bB
    have H := ift bB H
    refine fc<|fa<|Ea Z<|fb<|fx<|?_
    obtain ⟨a0, a1, aZ⟩ := jq H
    subst w x u
    refine ⟨(.inl Z), [(.bool true)], ⟨(.bool true), _, Z, Z, Z⟩, ?_⟩
    refine Pu2<|Pu3<|Pu3<|Pu3<|?_
    have dz := (ax.mono E).mono bY
    have dA := (aL.mono E).mono bY
    exact Sd ⟨J, N, L, P, Z, Z, dz, dA⟩
   ·intro bB
    have H := f0 (btf bB) H
    exact ft<|fa<|Ea Z<|fb<|Pu3<|Pu3<|Pu2<|Pu3<|Sd<|⟨_, by exact R4, 9223372036854775807, Z, Z, H⟩
  ·intro ag
   have ag := ir ag
   have H := ift ag H
   exact ft<|Pu3<|Pu3<|Pu2<|Pu3<|Sd<|⟨_, by exact R4, cB, Z, Z, H⟩
 rintro _ ed _ U ⟨i, rfl, rfl, H⟩
 unfold oP at H
 refine fc<|fa<|Em Z<|Em Z<|?_
 obtain ⟨n, dL, H⟩ := bnd H
 have ci := (a7.mono E).mono U
 have bK := (a8.mono E).mono U
 have bL := (hT.mono E).mono U
 refine fe Z (Ek Tryz.call58 Z (yF p1 y p2 z n dL _ _ ci bK bL) ?_)
 rintro _ ee _ I ⟨rfl, rfl⟩
 refine Ea Z<|fb<|fc<|fc<|fa<|Em Z<|Eq Z (fC Z)<|EF 3 Z<|El (.map (some c)) Z (Rb0 Z)<|Em Z<|?_
 have bM := ((aL.mono E).mono U).mono I
 refine Eq Z (AU (kv := Value.string) (k := n) (KeyK.str Z) bM Mb2 Z Z Z Z Z)<|fb<|?_
 refine fm Z ?_ ?_
 ·intro bC
  have H := ift bC H
  refine fc<|fa<|Ea Z<|fb<|fx<|?_
  obtain ⟨a0, a1, aZ⟩ := jq H
  subst w x u
  refine ⟨(.inl Z), [(.bool false)], ⟨(.bool false), _, Z, Z, Z⟩, ?_⟩
  refine Pu2<|Pu3<|Pu2<|Pu3<|?_
  have dB := ((ax.mono E).mono U).mono I
  exact Sd ⟨J, N, L, P, Z, Z, dB, bM⟩
 ·intro bC
  have H := f0 (btf bC) H
  refine ft ?_
  refine fz (fun s f h => ∃ (bv : Array MapEntry) (bV : Nat) (bP : ad0) (bl : SV) (bO : ad9) (bh : List (List Value)), [(0, (Vp g)), (9, (.string n))] = s ∧ (.blk g 84 [(sv j), (.bool e), (.func (.func 38) #[] #[(Vp b)]), (.map (some c)), (sv bl)]) :: (.blk b 58 [(sv p)]) :: (.obj c (.map bv bV)) :: (.row (sv bl) 67 6 bh.flatten) :: G = h ∧ wk n d e o rc bP bO = some (w, x, u) ∧ MapR Ty.bool Value.string f bv bP ∧ RowR fO f bh bO) ?_ ?_
  ·refine fc<|fa<|Em Z<|Eq Z (fC Z)<|EF 0 Z<|El (sv j) Z (Rb0 Z)<|?_
   have b5 := ((a6.mono E).mono U).mono I
   refine Eq Z (ge (T := (Ty.sl fM)) b5 Z Z)<|Em Z<|fb<|fA<|?_
   refine fY (fun cl s f h => ∃ (a : Int) (ad : Array MapEntry) (au : Nat) (ap : ad0) (ar : SV) (ao : ad9) (aq : List (List Value)), [(0, (Vp g)), (1, (sv y)), (2, (sv z)), (7, (Vi i)), (9, (.string n)), (56, (Vi (d.length : Int))), (57, (Vi a))] = s ∧ (.blk g 84 [(sv j), (.bool e), (.func (.func 38) #[] #[(Vp b)]), (.map (some c)), (sv ar)]) :: (.blk b 58 [(sv p)]) :: (.obj c (.map ad au)) :: (.row (sv ar) 67 6 aq.flatten) :: G = h ∧ lp3 (wq p1 p2 i n d e o rc) cl a ap ao = some (w, x, u) ∧ MapR Ty.bool Value.string f ad ap ∧ RowR fO f aq ao) BIG ?_ ?_
   ·refine Pu3<|Pu3<|Pu3<|Pu3<|?_
    have cZ := ((ax.mono E).mono U).mono I
    exact Sd ⟨_, by exact R7, 0, L, P, Y, J, aa, N, Z, Z, H, bM, cZ⟩
   rintro cl _ dY _ ah ⟨a, ad, au, ap, ar, ao, aq, rfl, rfl, H, a2, a4⟩
   obtain ⟨eo, V, rfl, cV, H⟩ := pq H
   unfold wq at H
   refine fc<|fa<|Ec Z<|fb<|fc<|?_
   refine fm Z ?_ ?_
   ·intro aG
    obtain ⟨aG, H⟩ := It aG H
    refine ft ?_
    refine fz (fun s f h => ∃ (aW : Array MapEntry) (bs : Nat) (bd : ad0) (bm : SV) (a9 : ad9) (bi : List (List Value)), [(0, (Vp g)), (1, (sv y)), (2, (sv z)), (7, (Vi i)), (9, (.string n)), (56, (Vi (d.length : Int))), (57, (Vi a))] = s ∧ (.blk g 84 [(sv j), (.bool e), (.func (.func 38) #[] #[(Vp b)]), (.map (some c)), (sv bm)]) :: (.blk b 58 [(sv p)]) :: (.obj c (.map aW bs)) :: (.row (sv bm) 67 6 bi.flatten) :: G = h ∧ oN p1 p2 i n d a e o V rc bd a9 = some (w, x, u) ∧ MapR Ty.bool Value.string f aW bd ∧ RowR fO f bi a9) ?_ ?_
    ·refine fA<|fc<|fa<|Em Z<|Ea Z<|fb<|fc<|fa<|Em Z<|Em Z<|Em Z<|Em Z<|?_
     obtain ⟨r, dS, dC, H⟩ := iw H
     refine Ow.shift (Pu3 (Sd ?_))
     refine Ow.shift (Pu3 (Sd ?_))
     refine Ow.shift (Pu3 (Sd ?_))
     refine Ow.shift (Pu3 (Sd ?_))
     have bF := b5.mono ah
     have bG := (((aK.mono E).mono U).mono I).mono ah
     have bH := (ci.mono I).mono ah
     refine fe Z (Ek Tryz.call59 Z (yY g d j e b o p ap c ad au ao ar aq p1 y a i r dS dC _ _ bF bG a2 a4 bH) ?_)
     rintro _ _ _ - ⟨C, D, rfl, rfl, rfl, bI, bJ⟩
     refine Em Z<|Ex Z<|Ex Z<|?_
     refine fe Z (fD (cs := (fh (fp.mk (Op.mk 0 0 0 0 0 [] []) (Result.mk 0 0 0 false 0) 0 0) fB fB)) Z Z Z Z (fun B => ?_))
     refine fe Z (Sa (fh r C D) Z .here Z ?_)
     refine Ea Z<|fb<|fc<|fc<|fa<|Em Z<|Eq Z (gf Z)<|fb<|?_
     refine fm Z ?_ ?_
     ·intro ae
      have ae := iv ae
      have H := f0 (btf ae) H
      exact f5<|Pu4<|Pu4<|Pu3<|Pu4<|Re4<|Sd<|⟨_, by exact R7, ad, au, ap, ar, ao, aq, Z, Z, H, a2, a4⟩
     ·intro ae
      have ae := ir ae
      have H := ift ae H
      refine ft ?_
      refine fz (fun s f h => ∃ (aX : Array MapEntry) (bt : Nat) (be : ad0) (bn : SV) (ba : ad9) (bj : List (List Value)), [(0, (Vp g)), (1, (sv y)), (2, (sv z)), (7, (Vi i)), (9, (.string n)), (10, (Vi a)), (11, (Vp B)), (56, (Vi (d.length : Int))), (57, (Vi a))] = s ∧ (.blk g 84 [(sv j), (.bool e), (.func (.func 38) #[] #[(Vp b)]), (.map (some c)), (sv bn)]) :: (.blk b 58 [(sv p)]) :: (.blk B 120 (fh r C D)) :: (.obj c (.map aX bt)) :: (.row (sv bn) 67 6 bj.flatten) :: G = h ∧ wn p1 p2 i n a d e o r V rc be ba = some (w, x, u) ∧ MapR Ty.bool Value.string f aX be ∧ RowR fO f bj ba) ?_ ?_
      ·refine fc<|fa<|EL 14 (fh r C D) Z (Rb0 Z)<|Em Z<|?_
       obtain ⟨aT, dD, H⟩ := bnd H
       have b6 := (bK.mono I).mono ah
       refine fe Z (Ek Tryz.call60 Z (yH r C D p2 z aT dD _ _ bI bJ b6) ?_)
       rintro _ dZ _ M ⟨bo, rfl, rfl, b7⟩
       refine Eq Z (ge (T := fP) b7 Z Z)<|Em Z<|fb<|fA<|?_
       refine fY (fun cm s f h => ∃ (an : Int) (av : Array MapEntry) (aD : Nat) (az : ad0) (aB : SV) (ay : ad9) (aA : List (List Value)), [(0, (Vp g)), (1, (sv y)), (2, (sv z)), (7, (Vi i)), (9, (.string n)), (10, (Vi a)), (11, (Vp B)), (56, (Vi (d.length : Int))), (57, (Vi a)), (72, (sv bo)), (73, (Vi (aT.length : Int))), (74, (Vi an))] = s ∧ (.blk g 84 [(sv j), (.bool e), (.func (.func 38) #[] #[(Vp b)]), (.map (some c)), (sv aB)]) :: (.blk b 58 [(sv p)]) :: (.blk B 120 (fh r C D)) :: (.obj c (.map av aD)) :: (.row (sv aB) 67 6 aA.flatten) :: (.tok 38 5 [(sv bo)]) :: G = h ∧ lp3 (wo p1 p2 i n a d aT e o r V rc) cm an az ay = some (w, x, u) ∧ MapR Ty.bool Value.string f av az ∧ RowR fO f aA ay) BIG ?_ ?_
       ·refine Pu5<|Pu5<|Pu3<|Pu4<|Pu5<|?_
        have c0 := a2.mono M
        have c1 := a4.mono M
        exact Sd ⟨_, by exact R12, 0, ad, au, ap, ar, ao, aq, Z, Z, H, c0, c1⟩
       rintro cm _ d0 _ R ⟨an, av, aD, az, aB, ay, aA, rfl, rfl, H, bD, bE⟩
       obtain ⟨ep, dM, rfl, cW, H⟩ := pq H
       unfold wo at H
       refine fc<|fa<|Ec Z<|fb<|fc<|?_
       refine fm Z ?_ ?_
       ·intro aH
        obtain ⟨aH, H⟩ := It aH H
        refine ft<|fc<|fA<|fc<|fa<|?_
        obtain ⟨F, cj, H⟩ := bnd H
        have b8 := b7.mono R
        obtain ⟨_, rfl, cT⟩ := Slr.at b8 cj
        refine Eq Z (Qi (T := fP) b8 cj Z)<|EL 5 (ff F) Z (Rdc.k cT Z)<|?_
        refine fe Z (fD (cs := (ff (Result.mk 0 0 0 false 0))) Z Z Z Z (fun ef => ?_))
        refine fe Z (Sa (ff F) Z .here Z ?_)
        refine fb<|fc<|fa<|Em Z<|EF 0 Z<|EL 7 (fj r.op C D) Z (Rb3 Z)<|EL 5 (ff F) Z (Rb0 Z)<|?_
        obtain ⟨cv, dT, dE, H⟩ := iw H
        have c2 := (b6.mono M).mono R
        have c3 := (bI.mono M).mono R
        have c4 := (bJ.mono M).mono R
        refine fe Z (Ek Tryz.call61 Z (xK p2 z r.op C D F cv dT dE _ _ c2 c3 c4) ?_)
        rintro _ cC _ S ⟨dO, rfl, rfl, c5⟩
        refine Em Z<|Ex Z<|Ex Z<|Ea Z<|Ea Z<|fb<|?_
        refine fz (fun s f h => ∃ (bQ : Bool) (aE : Array MapEntry) (aU : Nat) (bf : ad0) (aR : SV) (bb : ad9) (aP : List (List Value)), [(0, (Vp g)), (1, (sv y)), (2, (sv z)), (7, (Vi i)), (9, (.string n)), (10, (Vi a)), (11, (Vp B)), (56, (Vi (d.length : Int))), (57, (Vi a)), (72, (sv bo)), (73, (Vi (aT.length : Int))), (74, (Vi an)), (96, (.bool bQ))] = s ∧ (.blk g 84 [(sv j), (.bool e), (.func (.func 38) #[] #[(Vp b)]), (.map (some c)), (sv aR)]) :: (.blk b 58 [(sv p)]) :: (.blk B 120 (fh r C D)) :: (.obj c (.map aE aU)) :: (.row (sv aR) 67 6 aP.flatten) :: (.tok 38 5 [(sv bo)]) :: G = h ∧ s5 p1 p2 i n a d aT an e o r V dM rc bQ bf bb = some (w, x, u) ∧ MapR Ty.bool Value.string f aE bf ∧ RowR fO f aP bb) ?_ ?_
        ·refine fa<|Em Z<|Em Z<|?_
         refine Ee Z ?_ ?_
         ·intro bw
          have H := ift bw H
          refine Vm Z<|Vm Z<|Vm Z<|Vm Z<|VL 5 (ff F) Z (Rb0 Z)<|Vq Z (fG (cs := (fF (Done.mk a F))) Z Z Z Z Z Z)<|?_
          have b2 : RowR fO cC [(fF (Done.mk a F))] [(Done.mk a F)] := RowR.cons Z (RowR.nil)
          refine hQ Z Z Z Z (gh (T := fO) (rows := [(fF (Done.mk a F))]) (l := [(Done.mk a F)]) Z Z Z b2 Z Z Z Z Z Z Z Z (fun dP => ?_))
          refine Ow.shift (Shift.settle (T := fO) .here b2 Z (fun d1 ai c6 => Sd ?_))
          obtain ⟨cw, cx, cy, dF, H⟩ := j7 H
          refine Ow.shift (Pu6 (Sd ?_))
          refine Ow.shift (Pu6 (Sd ?_))
          refine Ow.shift (Pu5 (Sd ?_))
          refine Ow.shift (Pu5 (Sd ?_))
          have c7 := (((bF.mono M).mono R).mono S).mono ai
          have c8 := (((bG.mono M).mono R).mono S).mono ai
          have c9 := (bD.mono S).mono ai
          have da := (bE.mono S).mono ai
          have db := (((bH.mono M).mono R).mono S).mono ai
          have dc := c5.mono ai
          have dd := (((((bL.mono I).mono ah).mono M).mono R).mono S).mono ai
          refine hQ Z Z Z Z (Ek Tryz.call62 Z (yZ rc ih g d j e b o p az c av aD ay aB aA p1 y cv dO [(Done.mk a F)] dP cw cx cy dF _ _ c7 c8 c9 da db dc c6 dd) ?_)
          rintro _ d2 _ eh ⟨dQ, dN, cI, cF, rfl, rfl, de, df⟩
          exact Et Z<|fb<|Pu7<|Pu3<|Pu4<|Pu7<|Pu4<|Pu5<|Re6<|Re6<|Sd<|⟨_, by exact R13, cw, cI, cF, cy, dQ, cx, dN, Z, Z, H, df, de⟩
         ·intro bw
          have H := f0 (btf bw) H
          refine Ez Z<|Ez Z<|Ez Z<|Ez Z<|Ez Z<|Ez Z<|Ez Z<|Ez Z<|Ef Z<|fb<|Pu6<|Pu6<|Pu6<|Pu6<|Pu6<|Pu6<|Re6<|?_
          have dg := bD.mono S
          have dh := bE.mono S
          exact Sd ⟨_, by exact R13, false, av, aD, az, aB, ay, aA, Z, Z, H, dg, dh⟩
        rintro _ d3 _ ei ⟨bQ, aE, aU, bf, aR, bb, aP, rfl, rfl, H, bZ, b1⟩
        unfold s5 at H
        refine fm Z ?_ ?_
        ·intro bx
         have H := ift bx H
         refine fc<|fa<|Ea Z<|fb<|fx<|?_
         obtain ⟨a0, a1, aZ⟩ := jq H
         subst w x u
         refine ⟨(.inl Z), [(.bool true)], ⟨(.bool true), _, Z, Z, Z⟩, ?_⟩
         exact Pu3<|Pu4<|Pu2<|Pu3<|Re4<|Re4<|Sd<|⟨aR, aP, aE, aU, Z, Z, b1, bZ⟩
        ·intro bx
         have H := f0 (btf bx) H
         exact ft<|fa<|Er (wI (an + 1)) Z<|Em Z<|fb<|Pu5<|Pu5<|Pu5<|Pu5<|Pu5<|Pu5<|Sd<|⟨_, by exact R12, _, Nat.lt_succ_self _, (wI (an + 1)), aE, aU, bf, aR, bb, aP, Z, Z, (cW ▸ H), bZ, b1⟩
       ·intro aH
        obtain ⟨aH, H⟩ := If aH H
        exact f5<|Pu4<|Pu4<|Pu4<|Pu4<|Pu4<|Re5<|Sd<|⟨_, by exact R9, av, aD, az, aB, ay, aA, Z, Z, H, bD, bE⟩
      rintro _ d4 _ aj ⟨aX, bt, be, bn, ba, bj, rfl, rfl, H, cM, cR⟩
      unfold wn at H
      refine fc<|fa<|Em Z<|Eq Z (fC Z)<|EF 0 Z<|El (sv j) Z (Rb0 Z)<|?_
      have b9 := bF.mono aj
      refine Eq Z (ge (T := (Ty.sl fM)) b9 Z Z)<|Em Z<|fb<|fA<|?_
      refine fY (fun cn s f h => ∃ (t : Int) (Q : Array MapEntry) (ac : Nat) (X : ad0) (O : SV) (W : ad9) (ab : List (List Value)), [(0, (Vp g)), (1, (sv y)), (2, (sv z)), (7, (Vi i)), (9, (.string n)), (10, (Vi a)), (11, (Vp B)), (56, (Vi (d.length : Int))), (57, (Vi a)), (102, (Vi (d.length : Int))), (103, (Vi t))] = s ∧ (.blk g 84 [(sv j), (.bool e), (.func (.func 38) #[] #[(Vp b)]), (.map (some c)), (sv O)]) :: (.blk b 58 [(sv p)]) :: (.blk B 120 (fh r C D)) :: (.obj c (.map Q ac)) :: (.row (sv O) 67 6 ab.flatten) :: G = h ∧ lp3 (wm p1 p2 i n a d e o r V rc) cn t X W = some (w, x, u) ∧ MapR Ty.bool Value.string f Q X ∧ RowR fO f ab W) BIG ?_ ?_
      ·exact Pu4<|Pu4<|Pu4<|Pu4<|Pu4<|Sd<|⟨_, by exact R11, 0, aX, bt, be, bn, ba, bj, Z, Z, H, cM, cR⟩
      rintro cn _ cD _ ak ⟨t, Q, ac, X, O, W, ab, rfl, rfl, H, a3, a5⟩
      obtain ⟨er, bN, rfl, cX, H⟩ := pq H
      unfold wm at H
      refine fc<|fa<|Ec Z<|fb<|fc<|?_
      refine fm Z ?_ ?_
      ·intro aI
       obtain ⟨aI, H⟩ := It aI H
       refine ft ?_
       refine fz (fun s f h => ∃ (aY : Array MapEntry) (bu : Nat) (bg : ad0) (bp : SV) (bc : ad9) (bk : List (List Value)), [(0, (Vp g)), (1, (sv y)), (2, (sv z)), (7, (Vi i)), (9, (.string n)), (10, (Vi a)), (11, (Vp B)), (56, (Vi (d.length : Int))), (57, (Vi a)), (102, (Vi (d.length : Int))), (103, (Vi t))] = s ∧ (.blk g 84 [(sv j), (.bool e), (.func (.func 38) #[] #[(Vp b)]), (.map (some c)), (sv bp)]) :: (.blk b 58 [(sv p)]) :: (.blk B 120 (fh r C D)) :: (.obj c (.map aY bu)) :: (.row (sv bp) 67 6 bk.flatten) :: G = h ∧ oO p1 p2 i n a d t e o r V bN rc bg bc = some (w, x, u) ∧ MapR Ty.bool Value.string f aY bg ∧ RowR fO f bk bc) ?_ ?_
       ·refine fA<|fc<|fa<|Em Z<|Ea Z<|fb<|fc<|fa<|Em Z<|Em Z<|Em Z<|Em Z<|?_
        obtain ⟨aC, dU, dG, H⟩ := iw H
        refine Ow.shift (Pu4 (Sd ?_))
        refine Ow.shift (Pu4 (Sd ?_))
        refine Ow.shift (Pu3 (Sd ?_))
        refine Ow.shift (Pu3 (Sd ?_))
        have ca := b9.mono ak
        have cb := (bG.mono aj).mono ak
        have cc := (bH.mono aj).mono ak
        refine fe Z (Ek Tryz.call59 Z (yY g d j e b o p X c Q ac W O ab p1 y t i aC dU dG _ _ ca cb a3 a5 cc) ?_)
        rintro _ _ _ - ⟨bq, br, rfl, rfl, rfl, di, dj⟩
        refine Em Z<|Ex Z<|Ex Z<|?_
        refine fe Z (fD (cs := (fh (fp.mk (Op.mk 0 0 0 0 0 [] []) (Result.mk 0 0 0 false 0) 0 0) fB fB)) Z Z Z Z (fun bT => ?_))
        refine fe Z (Sa (fh aC bq br) Z .here Z ?_)
        refine Ea Z<|fb<|fc<|?_
        refine fz (fun s f h => ∃ (bR : Bool), [(0, (Vp g)), (1, (sv y)), (2, (sv z)), (7, (Vi i)), (9, (.string n)), (10, (Vi a)), (11, (Vp B)), (17, (Vi t)), (18, (Vp bT)), (56, (Vi (d.length : Int))), (57, (Vi a)), (102, (Vi (d.length : Int))), (103, (Vi t)), (120, (.bool bR))] = s ∧ cD = f ∧ (.blk g 84 [(sv j), (.bool e), (.func (.func 38) #[] #[(Vp b)]), (.map (some c)), (sv O)]) :: (.blk b 58 [(sv p)]) :: (.blk bT 120 (fh aC bq br)) :: (.blk B 120 (fh r C D)) :: (.obj c (.map Q ac)) :: (.row (sv O) 67 6 ab.flatten) :: G = h ∧ s4 p1 p2 i n a t d e W o aC r X V bN rc bR = some (w, x, u)) ?_ ?_
        ·refine fa<|Em Z<|Eq Z (gf Z)<|Em Z<|?_
         refine Ee Z ?_ ?_
         ·intro af
          have af := iv af
          have H := f0 (btf af) H
          exact Ez Z<|Ez Z<|Ez Z<|Et Z<|fb<|Pu4<|Pu4<|Pu5<|Pu3<|Pu4<|Pu5<|Sd<|⟨_, by exact R14, true, Z, Z, Z, H⟩
         ·intro af
          have af := ir af
          have H := ift af H
          exact Vm Z<|Vm Z<|Vc Z<|Ef Z<|fb<|Pu4<|Pu4<|Pu5<|Pu3<|Pu4<|Pu5<|Sd<|⟨_, by exact R14, (dcd (t = a)), Z, Z, Z, H⟩
        rintro _ _ _ - ⟨bR, rfl, rfl, rfl, H⟩
        unfold s4 at H
        refine fm Z ?_ ?_
        ·intro bz
         have H := ift bz H
         exact f5<|Pu5<|Pu5<|Pu5<|Pu4<|Pu4<|Re5<|Sd<|⟨_, by exact R11, Q, ac, X, O, W, ab, Z, Z, H, a3, a5⟩
        ·intro bz
         have H := f0 (btf bz) H
         refine ft<|fc<|fa<|Em Z<|EL 14 (fh r C D) Z (Rb3 Z)<|EL 14 (fh aC bq br) Z (Rb2 Z)<|?_
         obtain ⟨bS, dH, H⟩ := bnd H
         have cd := (((bK.mono I).mono ah).mono aj).mono ak
         have dk := (bI.mono aj).mono ak
         have dl := (bJ.mono aj).mono ak
         refine fe Z (Ek Tryz.call63 Z (yL p2 z r C D aC bq br bS dH _ _ cd dk dl di dj) ?_)
         rintro _ d5 _ al ⟨cr, rfl, rfl, ce⟩
         refine Eq Z (ge (T := gu) ce Z Z)<|Em Z<|fb<|fA<|?_
         refine fY (fun co s f h => ∃ (aM : Int) (aF : Array MapEntry) (aV : Nat) (aO : ad0) (aS : SV) (aN : ad9) (aQ : List (List Value)), [(0, (Vp g)), (1, (sv y)), (2, (sv z)), (7, (Vi i)), (9, (.string n)), (10, (Vi a)), (11, (Vp B)), (17, (Vi t)), (56, (Vi (d.length : Int))), (57, (Vi a)), (102, (Vi (d.length : Int))), (103, (Vi t)), (124, (sv cr)), (125, (Vi (bS.length : Int))), (126, (Vi aM))] = s ∧ (.blk g 84 [(sv j), (.bool e), (.func (.func 38) #[] #[(Vp b)]), (.map (some c)), (sv aS)]) :: (.blk b 58 [(sv p)]) :: (.blk B 120 (fh r C D)) :: (.obj c (.map aF aV)) :: (.row (sv aS) 67 6 aQ.flatten) :: (.tok 131 10 [(sv cr)]) :: G = h ∧ lp3 (wl p1 p2 i n a t d bS e o r V bN rc) co aM aO aN = some (w, x, u) ∧ MapR Ty.bool Value.string f aF aO ∧ RowR fO f aQ aN) BIG ?_ ?_
         ·refine Pu6<|Pu6<|Pu6<|Pu5<|Pu5<|Re6<|?_
          have dm := a3.mono al
          have dn := a5.mono al
          exact Sd ⟨_, by exact R15, 0, Q, ac, X, O, W, ab, Z, Z, H, dm, dn⟩
         rintro co _ cE _ aw ⟨aM, aF, aV, aO, aS, aN, aQ, rfl, rfl, H, b0, b3⟩
         obtain ⟨es, en, rfl, cY, H⟩ := pq H
         unfold wl at H
         refine fc<|fa<|Ec Z<|fb<|fc<|?_
         refine fm Z ?_ ?_
         ·intro aJ
          obtain ⟨aJ, H⟩ := It aJ H
          refine ft<|fc<|fA<|fc<|fa<|?_
          obtain ⟨A, ck, H⟩ := bnd H
          have cf := ce.mono aw
          obtain ⟨_, rfl, cU⟩ := Slr.at cf ck
          refine Eq Z (Qi (T := gu) cf ck Z)<|EL 10 (gV A) Z (Rdc.k cU Z)<|?_
          refine fe Z (fD (cs := (gV (gp.mk (Result.mk 0 0 0 false 0) (Result.mk 0 0 0 false 0)))) Z Z Z Z (fun eg => ?_))
          refine fe Z (Sa (gV A) Z .here Z ?_)
          refine fb<|fc<|fa<|Em Z<|Em Z<|Em Z<|Em Z<|Eq Z (gA (q := 0) (m := 0) Z Z Z Z Z (by decide) Z (by decide))<|EL 5 (ff A.x0) Z (Rb0 Z)<|Eq Z (fG (cs := (fF (Done.mk a A.x0))) Z Z Z Z Z Z)<|Em Z<|Eq Z (gA (q := 1) (m := 5) Z Z Z Z Z (by decide) Z (by decide))<|EL 5 (ff A.x1) Z (Rb0 Z)<|Eq Z (fG (cs := (fF (Done.mk t A.x1))) Z Z Z Z Z Z)<|?_
          have b4 : RowR fO cE [(fF (Done.mk a A.x0)), (fF (Done.mk t A.x1))] [(Done.mk a A.x0), (Done.mk t A.x1)] := RowR.cons Z (RowR.cons Z (RowR.nil))
          refine fe Z (gh (T := fO) (rows := [(fF (Done.mk a A.x0)), (fF (Done.mk t A.x1))]) (l := [(Done.mk a A.x0), (Done.mk t A.x1)]) Z Z Z b4 Z Z Z Z Z Z Z Z (fun dR => ?_))
          refine Ow.shift (Shift.settle (T := fO) .here b4 Z (fun d6 am dp => Sd ?_))
          obtain ⟨dV, cz, cA, dI, H⟩ := j7 H
          refine Ow.shift (Pu6 (Sd ?_))
          refine Ow.shift (Pu6 (Sd ?_))
          refine Ow.shift (Pu5 (Sd ?_))
          refine Ow.shift (Pu5 (Sd ?_))
          have dq := ((ca.mono al).mono aw).mono am
          have dr := ((cb.mono al).mono aw).mono am
          have ds := b0.mono am
          have dt := b3.mono am
          have du := ((cc.mono al).mono aw).mono am
          have dv := ((cd.mono al).mono aw).mono am
          have dw := ((((((bL.mono I).mono ah).mono aj).mono ak).mono al).mono aw).mono am
          refine fe Z (Ek Tryz.call62 Z (yZ rc ih g d j e b o p aO c aF aV aN aS aQ p1 y p2 z [(Done.mk a A.x0), (Done.mk t A.x1)] dR dV cz cA dI _ _ dq dr ds dt du dv dp dw) ?_)
          rintro _ d7 _ ej ⟨ct, cp, bW, bU, rfl, rfl, cg, ch⟩
          refine fb ?_
          refine fm Z ?_ ?_
          ·intro bA
           have H := ift bA H
           refine fc<|fa<|Ea Z<|fb<|fx<|?_
           obtain ⟨a0, a1, aZ⟩ := jq H
           subst w x u
           refine ⟨(.inl Z), [(.bool true)], ⟨(.bool true), _, Z, Z, Z⟩, ?_⟩
           exact Pu3<|Pu3<|Pu3<|Pu3<|Re4<|Re4<|Re4<|Re4<|Sd<|⟨ct, cp, bW, bU, Z, Z, cg, ch⟩
          ·intro bA
           have H := f0 (btf bA) H
           exact ft<|fa<|Er (wI (aM + 1)) Z<|Em Z<|fb<|Pu7<|Pu3<|Pu4<|Pu7<|Pu4<|Pu5<|Re6<|Re6<|Sd<|⟨_, by exact R15, _, Nat.lt_succ_self _, (wI (aM + 1)), bW, bU, cA, ct, cz, cp, Z, Z, (cY ▸ H), ch, cg⟩
         ·intro aJ
          obtain ⟨aJ, H⟩ := If aJ H
          exact f5<|Pu4<|Pu4<|Pu4<|Pu4<|Pu4<|Re5<|Sd<|⟨_, by exact R11, aF, aV, aO, aS, aN, aQ, Z, Z, H, b0, b3⟩
       rintro _ d8 _ ek ⟨aY, bu, bg, bp, bc, bk, rfl, rfl, H, cN, cS⟩
       unfold oO at H
       exact fa<|Er (wI (t + 1)) Z<|Em Z<|fb<|Pu4<|Pu4<|Pu4<|Pu4<|Pu4<|Sd<|⟨_, by exact R11, _, Nat.lt_succ_self _, (wI (t + 1)), aY, bu, bg, bp, bc, bk, Z, Z, (cX ▸ H), cN, cS⟩
      ·intro aI
       obtain ⟨aI, H⟩ := If aI H
       exact f5<|Pu4<|Pu4<|Pu3<|Pu3<|Re4<|Sd<|⟨_, by exact R7, Q, ac, X, O, W, ab, Z, Z, H, a3, a5⟩
    rintro _ d9 _ el ⟨aW, bs, bd, bm, a9, bi, rfl, rfl, H, cL, cQ⟩
    unfold oN at H
    exact fa<|Er (wI (a + 1)) Z<|Em Z<|fb<|Pu3<|Pu3<|Pu3<|Pu3<|Sd<|⟨_, by exact R7, _, Nat.lt_succ_self _, (wI (a + 1)), aW, bs, bd, bm, a9, bi, Z, Z, (cV ▸ H), cL, cQ⟩
   ·intro aG
    obtain ⟨aG, H⟩ := If aG H
    exact f5<|Pu3<|Pu3<|Pu3<|Pu3<|Sd<|⟨_, by exact R2, ad, au, ap, ar, ao, aq, Z, Z, H, a2, a4⟩
  rintro _ ea _ em ⟨bv, bV, bP, bl, bO, bh, rfl, rfl, H, cK, cP⟩
  unfold wk at H
  refine fc<|fa<|Em Z<|Eq Z (fC Z)<|EF 3 Z<|El (.map (some c)) Z (Rb0 Z)<|Em Z<|?_
  refine fe Z (ym (T := Ty.bool) (kv := Value.string) (k := n) (x1 := true) (KeyK.str Z) cK Mb2 Z Z Z Z Z (fun cJ cG cO => ⟨_, (.there (.there .here)), ?_⟩))
  refine fb<|fc<|fa<|Ea Z<|fb<|fx<|?_
  obtain ⟨a0, a1, aZ⟩ := jq H
  subst w x u
  refine ⟨(.inl Z), [(.bool false)], ⟨(.bool false), _, Z, Z, Z⟩, ?_⟩
  exact Pu2<|Pu3<|Pu2<|Pu3<|Sd<|⟨bl, bh, cJ, cG, Z, Z, cP, cO⟩
theorem DY (p0 : fQ) (j n : SV) (p1 : ae8) (F : SV) (p2 : ad8) (ag : SV) (B : Bool) (H : r3 p0 p1 p2 = some B) (K : Kp) (G : List Ent) (ap : Slr Ty.i64 K (sv j) p0.capacities) (aq : Slr Ty.u64 K (sv n) p0.starts) (O : Slr (Ty.sl gR) K (sv F) p1) (ar : Slr f4 K (sv ag) p2) (hT : li K) :
  Fc Tryz.prog 16 #[(.agg (fq p0 j n).toArray), (sv F), (sv ag)] K (G) (fun v u p => v = (.bool B) ∧ G = p) := by
 refine fN Tryz.func16 Z Tryz.ntmps16 Tryz.results16 Z ?_
 unfold r3 at H
 refine fc<|fa<|?_
 refine fe Z (fU (cs := (fq p0 j n)) Z Z Z (fun w => ?_))
 refine Ea Z<|fb<|fc<|fa<|Em Z<|Em Z<|?_
 obtain ⟨I, e, J, bA, H⟩ := j7 H
 refine fe Z (Ek Tryz.call28 Z (yE p1 F p2 ag I e J bA _ _ O ar) ?_)
 rintro _ bN _ c ⟨h, E, f, N, M, rfl, rfl, au, av⟩
 refine Ea Z<|fb<|fc<|fa<|?_
 refine fe Z (fD (cs := [(sv fB)]) Z Z Z Z (fun b => ?_))
 refine fb ?_
 refine fz (fun C u p => ∃ (Q : SV) (aa : ae0), [(1, (sv F)), (3, (Vp w)), (7, (Vp h)), (8, (Vp b))] = C ∧ (.blk b 58 [(sv Q)]) :: (.blk h 84 [(sv E), (.bool e), .nilFunc, (.map (some f)), (sv fB)]) :: (.blk w 27 (fq p0 j n)) :: (.tok 96 8 [(sv Q)]) :: (.obj f (.map N M)) :: G = p ∧ wu p1 I e p0 J aa = some B ∧ Slr fJ u (sv Q) aa) ?_ ?_
 ·refine fc<|fa<|Em Z<|?_
  obtain ⟨L, bB, H⟩ := bnd H
  have bs := ar.mono c
  refine fe Z (Ek Tryz.call37 Z (DV p2 ag L bB _ _ bs) ?_)
  rintro _ bO _ ad ⟨R, rfl, rfl, ax⟩
  refine Eq Z (ge (T := gy) ax Z Z)<|Em Z<|fb<|fA<|?_
  refine fY (fun aM C u p => ∃ (t : Int) (i : SV) (P : ae0), [(1, (sv F)), (3, (Vp w)), (7, (Vp h)), (8, (Vp b)), (15, (sv R)), (16, (Vi (L.length : Int))), (17, (Vi t))] = C ∧ (.blk b 58 [(sv i)]) :: (.blk h 84 [(sv E), (.bool e), .nilFunc, (.map (some f)), (sv fB)]) :: (.blk w 27 (fq p0 j n)) :: (.tok 96 8 [(sv i)]) :: (.tok 91 2 [(sv R)]) :: (.obj f (.map N M)) :: G = p ∧ lp2 (wv p1 L I e p0 J) aM t P = some B ∧ Slr fJ u (sv i) P) BIG ?_ ?_
  ·exact Shift.nilTok1 96 8<|Pu3<|Pu2<|Pu2<|Pu5<|Pu5<|Pu5<|Sd<|⟨_, by exact R7, 0, fB, ([] : ae0), Z, Z, H, (Slr.nil fJ _)⟩
  rintro aM _ ai _ Y ⟨t, i, P, rfl, rfl, H, ae⟩
  obtain ⟨b8, aL, rfl, a4, H⟩ := jC H
  unfold wv at H
  refine fc<|fa<|Ec Z<|fb<|fc<|?_
  refine fm Z ?_ ?_
  ·intro U
   obtain ⟨U, H⟩ := It U H
   refine ft ?_
   refine fz (fun C u p => ∃ (ab : SV) (af : ae0), [(1, (sv F)), (3, (Vp w)), (7, (Vp h)), (8, (Vp b)), (15, (sv R)), (16, (Vi (L.length : Int))), (17, (Vi t))] = C ∧ (.blk b 58 [(sv ab)]) :: (.blk h 84 [(sv E), (.bool e), .nilFunc, (.map (some f)), (sv fB)]) :: (.blk w 27 (fq p0 j n)) :: (.tok 96 8 [(sv ab)]) :: (.tok 91 2 [(sv R)]) :: (.obj f (.map N M)) :: G = p ∧ r0 p1 L t I e p0 J aL af = some B ∧ Slr fJ u (sv ab) af) ?_ ?_
   ·refine fA<|fc<|fa<|?_
    obtain ⟨a, aE, H⟩ := bnd H
    have ay := ax.mono Y
    obtain ⟨_, rfl, a0⟩ := Slr.at ay aE
    refine Eq Z (Qi (T := gy) ay aE Z)<|EL 2 (gv a) Z (Rdc.k a0 Z)<|?_
    refine fe Z (fD (cs := (gv (A2Int.mk 0 0))) Z Z Z Z (fun am => ?_))
    refine fe Z (Sa (gv a) Z .here Z ?_)
    refine fb ?_
    refine fz (fun C u p => ∃ (al : Bool), [(1, (sv F)), (3, (Vp w)), (7, (Vp h)), (8, (Vp b)), (10, (Vp am)), (15, (sv R)), (16, (Vi (L.length : Int))), (17, (Vi t)), (46, (.bool al))] = C ∧ ai = u ∧ (.blk am 91 (gv a)) :: (.blk b 58 [(sv i)]) :: (.blk h 84 [(sv E), (.bool e), .nilFunc, (.map (some f)), (sv fB)]) :: (.blk w 27 (fq p0 j n)) :: (.tok 96 8 [(sv i)]) :: (.tok 91 2 [(sv R)]) :: (.obj f (.map N M)) :: G = p ∧ s7 p1 L t a P I e p0 J aL al = some B) ?_ ?_
    ·rcases gY (dcd (a.x0 ≥ 0)) with y | y <;> revert y
     ·intro s
      obtain ⟨s, H⟩ := It s H
      rcases gY (dcd (a.x0 < (p1.length : Int))) with y | y <;> revert y
      ·intro x
       obtain ⟨x, H⟩ := It x H
       rcases gY (dcd (a.x1 ≥ 0)) with y | y <;> revert y
       ·intro D
        obtain ⟨D, H⟩ := It D H
        obtain ⟨bI, aF, H⟩ := bnd H
        refine fw _ Z (Ic Mb0 (Ic Mb1 (Ic Mb2 (Ic Mb3 (Ic Mb4 (Ic Mb5 (Ic Mb6 In0)))))))<|Jq 0 Z (gA (q := 0) (m := 0) Z Z Z Z Z (by decide) Z (by decide))<|Jl 1 (Vi a.x0) Z (Rb0 Z)<|Jc 2 Z<|Jm 3 Z<|Aw.known (d := 24) Z (hX s)<|Bq 4 Z (gA (q := 0) (m := 0) Z Z Z Z Z (by decide) Z (by decide))<|Bl 5 (Vi a.x0) Z (Rb0 Z)<|Bm 6 Z<|?_
        have ak := ((O.mono c).mono ad).mono Y
        refine Bq 7 Z (ge (T := (Ty.sl gR)) ak Z Z)<|Bc 8 Z<|Jt 9 Z<|Jm 10 Z<|Aw.known (d := 31) Z (hX x)<|Bq 11 Z (gA (q := 1) (m := 1) Z Z Z Z Z (by decide) Z (by decide))<|Bl 12 (Vi a.x1) Z (Rb0 Z)<|Bc 13 Z<|Jt 14 Z<|Jm 15 Z<|Aw.known (d := 36) Z (hX D)<|Bq 16 Z (gA (q := 1) (m := 1) Z Z Z Z Z (by decide) Z (by decide))<|Bl 17 (Vi a.x1) Z (Rb0 Z)<|Bm 18 Z<|Bq 19 Z (gA (q := 0) (m := 0) Z Z Z Z Z (by decide) Z (by decide))<|Bl 20 (Vi a.x0) Z (Rb0 Z)<|?_
        obtain ⟨b9, a5, a1⟩ := Slr.at ak aF
        obtain ⟨bG, rfl, bu⟩ := a5
        exact Bq 21 Z (Qi (T := (Ty.sl gR)) ak aF Z)<|Bl 22 (sv bG) Z (Rdc.k a1 Z)<|Bq 23 Z (ge (T := gR) bu Z Z)<|Bc 24 Z<|Jt 25 Z<|Ad<|Pu6<|Pu6<|Pu6<|Pu6<|Pu6<|Pu6<|Pu6<|Sd<|⟨_, by exact R9, (dcd (a.x1 < (bI.length : Int))), Z, Z, Z, H⟩
       ·intro D
        obtain ⟨D, H⟩ := If D H
        refine fw _ Z (Ic Mb0 (Ic Mb1 (Ic Mb2 (Ic Mb3 (Ic Mb4 (Ic Mb5 (Ic Mb6 In0)))))))<|Jq 0 Z (gA (q := 0) (m := 0) Z Z Z Z Z (by decide) Z (by decide))<|Jl 1 (Vi a.x0) Z (Rb0 Z)<|Jc 2 Z<|Jm 3 Z<|Aw.known (d := 24) Z (hX s)<|Bq 4 Z (gA (q := 0) (m := 0) Z Z Z Z Z (by decide) Z (by decide))<|Bl 5 (Vi a.x0) Z (Rb0 Z)<|Bm 6 Z<|?_
        have bv := ((O.mono c).mono ad).mono Y
        refine Bq 7 Z (ge (T := (Ty.sl gR)) bv Z Z)<|Bc 8 Z<|Jt 9 Z<|Jm 10 Z<|Aw.known (d := 31) Z (hX x)<|Bq 11 Z (gA (q := 1) (m := 1) Z Z Z Z Z (by decide) Z (by decide))<|Bl 12 (Vi a.x1) Z (Rb0 Z)<|Bc 13 Z<|Jt 14 Z<|Jm 15 Z<|Aw.known (d := 36) Z (iE D)<|Jz 16 Z<|Jz 17 Z<|Jz 18 Z<|Jz 19 Z<|Jz 20 Z<|Jz 21 Z<|Jz 22 Z<|Jz 23 Z<|Jz 24 Z<|Jf 25 Z<|Ad<|?_
        exact Pu6<|Pu6<|Pu6<|Pu6<|Pu6<|Pu6<|Pu6<|Sd<|⟨_, by exact R9, false, Z, Z, Z, H⟩
      ·intro x
       obtain ⟨x, H⟩ := If x H
       refine fw _ Z (Ic Mb0 (Ic Mb1 (Ic Mb2 (Ic Mb3 (Ic Mb4 (Ic Mb5 (Ic Mb6 In0)))))))<|Jq 0 Z (gA (q := 0) (m := 0) Z Z Z Z Z (by decide) Z (by decide))<|Jl 1 (Vi a.x0) Z (Rb0 Z)<|Jc 2 Z<|Jm 3 Z<|Aw.known (d := 24) Z (hX s)<|Bq 4 Z (gA (q := 0) (m := 0) Z Z Z Z Z (by decide) Z (by decide))<|Bl 5 (Vi a.x0) Z (Rb0 Z)<|Bm 6 Z<|?_
       have bw := ((O.mono c).mono ad).mono Y
       refine Bq 7 Z (ge (T := (Ty.sl gR)) bw Z Z)<|Bc 8 Z<|Jt 9 Z<|Jm 10 Z<|Aw.known (d := 31) Z (iE x)<|Jz 11 Z<|Jz 12 Z<|Jz 13 Z<|Jf 14 Z<|Jm 15 Z<|Jz 16 Z<|Jz 17 Z<|Jz 18 Z<|Jz 19 Z<|Jz 20 Z<|Jz 21 Z<|Jz 22 Z<|Jz 23 Z<|Jz 24 Z<|Jf 25 Z<|Ad<|Pu6<|?_
       exact Pu6<|Pu6<|Pu6<|Pu6<|Pu6<|Pu6<|Sd<|⟨_, by exact R9, false, Z, Z, Z, H⟩
     ·intro s
      obtain ⟨s, H⟩ := If s H
      refine fw _ Z (Ic Mb0 (Ic Mb1 (Ic Mb2 (Ic Mb3 (Ic Mb4 (Ic Mb5 (Ic Mb6 In0)))))))<|Jq 0 Z (gA (q := 0) (m := 0) Z Z Z Z Z (by decide) Z (by decide))<|Jl 1 (Vi a.x0) Z (Rb0 Z)<|Jc 2 Z<|Jm 3 Z<|Aw.known (d := 24) Z (iE s)<|Jz 4 Z<|Jz 5 Z<|Jz 6 Z<|Jz 7 Z<|Jz 8 Z<|Jf 9 Z<|Jm 10 Z<|Jz 11 Z<|Jz 12 Z<|Jz 13 Z<|Jf 14 Z<|Jm 15 Z<|Jz 16 Z<|Jz 17 Z<|Jz 18 Z<|Jz 19 Z<|?_
      exact Jz 20 Z<|Jz 21 Z<|Jz 22 Z<|Jz 23 Z<|Jz 24 Z<|Jf 25 Z<|Ad<|Pu6<|Pu6<|Pu6<|Pu6<|Pu6<|Pu6<|Pu6<|Sd<|⟨_, by exact R9, false, Z, Z, Z, H⟩
    rintro _ _ _ - ⟨al, rfl, rfl, rfl, H⟩
    unfold s7 at H
    refine fm Z ?_ ?_
    ·intro aj
     have H := ift aj H
     obtain ⟨ck, aG, H⟩ := bnd H
     obtain ⟨o, aH, H⟩ := bnd H
     obtain ⟨aR, aI, H⟩ := bnd H
     refine fw _ Z (Ic Mb0 (Ic Mb2 (Ic Mb3 (Ic Mb5 (Ic Mb6 In0)))))<|Jq 1 Z (gA (q := 0) (m := 0) Z Z Z Z Z (by decide) Z (by decide))<|Jl 2 (Vi a.x0) Z (Rb0 Z)<|Jm 3 Z<|Jq 4 Z (gA (q := 0) (m := 0) Z Z Z Z Z (by decide) Z (by decide))<|Jl 5 (Vi a.x0) Z (Rb0 Z)<|?_
     have az := ((O.mono c).mono ad).mono Y
     obtain ⟨ca, a6, a2⟩ := Slr.at az aG
     obtain ⟨bH, rfl, aA⟩ := a6
     refine Jq 6 Z (Qi (T := (Ty.sl gR)) az aG Z)<|Jl 7 (sv bH) Z (Rdc.k a2 Z)<|Jq 8 Z (gA (q := 1) (m := 1) Z Z Z Z Z (by decide) Z (by decide))<|Jl 9 (Vi a.x1) Z (Rb0 Z)<|?_
     obtain ⟨cb, a7, a3⟩ := Slr.at aA aH
     obtain ⟨z, A, rfl, aB, aC⟩ := a7
     refine Jq 10 Z (Qi (T := gR) aA aH Z)<|JL 11 7 (fj o z A) Z (Rdc.k a3 Z)<|Jq 12 Z (fG (cs := (f9 (gd.mk a.x0 o) z A)) Z Z Z Z Z Z)<|?_
     refine gW 0 13 (by kernel_rfl) ?_ ?_
     ·refine id (Jyq Z (gr (v := (sv i)) Z Z Z (Rb1 Z)) ⟨(Ic Mb0 (Ic Mb2 (Ic Mb3 (Ic Mb5 (Ic Mb6 In0))))), ?_⟩)
      refine Ao 13 Z ?_
      have an : RowR fJ ai [(f9 (gd.mk a.x0 o) z A)] [(gd.mk a.x0 o)] := RowR.cons ⟨z, A, Z, aB, aC⟩ (RowR.nil)
      refine gh (T := fJ) (rows := [(f9 (gd.mk a.x0 o) z A)]) (l := [(gd.mk a.x0 o)]) Z Z Z an Z Z Z Z Z Z Z Z (fun ci => ⟨(Ic Mb1 (Ic Mb3 (Ic Mb4 (Ic Mb6 (Ic Mb7 In0))))), ?_⟩)
      refine Ao 14 Z ?_
      refine f8 (T := fJ) (bytes := 96) (q := 0) Z Z Z ae Mb5 Z (SrcT.row Mb0 an Z) aI Z Z Z Z Z Z Z Z (fun aN bP bZ bx => ⟨_, (.there (.there (.there (.there (.there .here))))), ⟨(Ic Mb1 (Ic Mb3 (Ic Mb4 (Ic Mb6 (Ic Mb7 In0))))), ?_⟩⟩)
      refine Aw.shift (Re0 (Sd ⟨(Ic Mb0 (Ic Mb2 (Ic Mb3 (Ic Mb5 (Ic Mb6 In0))))), ?_⟩))
      refine Ao 15 Z ?_
      refine Sa [(sv aN)] Z (.there .here) Z ⟨(Ic Mb0 (Ic Mb2 (Ic Mb3 (Ic Mb5 (Ic Mb6 In0))))), ?_⟩
      exact Ad<|Pu6<|Pu6<|Pu6<|Pu6<|Pu6<|Pu6<|Re6<|Sd<|⟨_, by exact R7, aN, aR, Z, Z, H, bx⟩
     ·refine id (Jy Z ?_)
      have ao : RowR fJ ai [(f9 (gd.mk a.x0 o) z A)] [(gd.mk a.x0 o)] := RowR.cons ⟨z, A, Z, aB, aC⟩ (RowR.nil)
      refine gh (T := fJ) (rows := [(f9 (gd.mk a.x0 o) z A)]) (l := [(gd.mk a.x0 o)]) Z Z Z ao Z Z Z Z Z Z Z Z (fun cj => ⟨(Ic Mb1 (Ic Mb3 (Ic Mb4 (Ic Mb6 (Ic Mb7 In0))))), ?_⟩)
      refine gB 0 (by kernel_rfl) (Jyq Z (gr (v := (sv i)) Z Z Z (Rb2 Z)) ⟨(Ic Mb1 (Ic Mb3 (Ic Mb4 (Ic Mb6 (Ic Mb7 In0))))), ?_⟩)
      refine Ao 14 Z ?_
      refine f8 (T := fJ) (bytes := 96) (q := 0) Z Z Z ae Mb5 Z (SrcT.row Mb0 ao Z) aI Z Z Z Z Z Z Z Z (fun aO bQ b0 bz => ⟨_, (.there (.there (.there (.there (.there .here))))), ⟨(Ic Mb1 (Ic Mb3 (Ic Mb4 (Ic Mb6 (Ic Mb7 In0))))), ?_⟩⟩)
      refine Aw.shift (Re0 (Sd ⟨(Ic Mb0 (Ic Mb2 (Ic Mb3 (Ic Mb5 (Ic Mb6 In0))))), ?_⟩))
      refine Ao 15 Z ?_
      refine Sa [(sv aO)] Z (.there .here) Z ⟨(Ic Mb0 (Ic Mb2 (Ic Mb3 (Ic Mb5 (Ic Mb6 In0))))), ?_⟩
      exact Ad<|Pu6<|Pu6<|Pu6<|Pu6<|Pu6<|Pu6<|Re6<|Sd<|⟨_, by exact R7, aO, aR, Z, Z, H, bz⟩
    ·intro aj
     have H := f0 (btf aj) H
     exact ft<|Pu6<|Pu6<|Pu6<|Pu6<|Pu6<|Pu6<|Re6<|Sd<|⟨_, by exact R7, i, P, Z, Z, H, ae⟩
   rintro _ bR _ b1 ⟨ab, af, rfl, rfl, H, bt⟩
   unfold r0 at H
   exact fa<|Er (wI (t + 1)) Z<|Em Z<|fb<|Pu5<|Pu5<|Pu5<|Pu5<|Pu5<|Pu5<|Sd<|⟨_, by exact R7, _, Nat.lt_succ_self _, (wI (t + 1)), ab, af, Z, Z, (a4 ▸ H), bt⟩
  ·intro U
   obtain ⟨U, H⟩ := If U H
   exact f5<|Pu5<|Pu4<|Pu4<|Pu4<|Pu4<|Re5<|Sd<|⟨_, by exact R4, i, P, Z, Z, H, ae⟩
 rintro _ bS _ g ⟨Q, aa, rfl, rfl, H, aw⟩
 unfold wu at H
 refine fc<|fa<|Em Z<|Eq Z (lF Z Z)<|Eq Z (fC Z)<|EF 2 Z<|?_
 refine fe Z (So [(.func (.func 38) #[] #[(Vp b)])] [(sv E), (.bool e), (.func (.func 38) #[] #[(Vp b)]), (.map (some f)), (sv fB)] Z (.there .here) Z ?_)
 refine fb<|fc<|?_
 obtain ⟨aS, aJ, H⟩ := bnd H
 obtain ⟨ah, aK, H⟩ := bnd H
 obtain ⟨S, aP, aQ, aD, H⟩ := j7 H
 refine fw _ Z (Ic Mb0 (Ic Mb2 (Ic Mb3 In0)))<|Jm 0 Z<|Jm 1 Z<|?_
 have a8 := (O.mono c).mono g
 refine Jq 2 Z (ge (T := (Ty.sl gR)) a8 Z Z)<|JL 4 3 (fq p0 j n) Z (Rb1 Z)<|?_
 refine gW 3 5 (by kernel_rfl) ?_ ?_
 ·refine id (Jy Z ?_)
  refine jw (T := Ty.i64) (r := [(Vi 0)]) Z Z Z aJ Z Z Z Z Z Z Z Z Z Z (fun bC cc aW b6 => ⟨(Ic Mb1 (Ic Mb3 (Ic Mb4 In0))), ?_⟩)
  refine Ao 5 Z ?_
  have a9 := (ap.mono c).mono g
  have ba := (aq.mono c).mono g
  refine Ek Tryz.call30 Z (nn p0 j n ah aK _ _ a9 ba) ?_
  rintro _ bJ _ V ⟨bD, rfl, rfl, bb⟩
  refine ⟨(Ic Mb2 (Ic Mb4 (Ic Mb5 In0))), ?_⟩
  refine Ao 6 Z ?_
  have bd := aW.mono V
  refine OpW.shift (Shift.settle (T := Ty.i64) (.there .here) bd Z (fun aT W bc => Sd ?_))
  have aX : RowR fO aT [] [] := RowR.nil
  refine OpW.shift (Shift.nilRow 67 6 (Sd ?_))
  refine OpW.shift (Pu7 (Sd ?_))
  refine OpW.shift (Pu4 (Sd ?_))
  refine OpW.shift (Pu5 (Sd ?_))
  have be := ((au.mono g).mono V).mono W
  have bf := (aw.mono V).mono W
  have bg := ((av.mono g).mono V).mono W
  have bh := bb.mono W
  have bi := (((hT.mono c).mono g).mono V).mono W
  refine Ek Tryz.call29 Z (Bi 100 h I E e b aa Q J f N M ([] : ad9) fB ([] : List (List Value)) aS bC ah bD S aP aQ aD _ _ be bf bg aX bc bh bi) ?_
  rintro _ bK _ bX ⟨cg, cd, bV, bT, rfl, rfl, b2, b3⟩
  refine ⟨(Ic Mb0 (Ic Mb6 (Ic Mb7 In0))), ?_⟩
  refine Ja 7 Z<|Ad<|fx<|?_
  obtain aV := gq H
  subst B
  refine ⟨(.inl Z), [(.bool S)], ⟨(.bool S), _, Z, Z, Z⟩, ?_⟩
  exact Re0<|Re0<|Re0<|Re0<|Re0<|Re0<|Re0<|Re0<|Sd<|⟨Z, Z⟩
 ·refine id (Jy Z ?_)
  have bj := (ap.mono c).mono g
  have bk := (aq.mono c).mono g
  refine Ek Tryz.call30 Z (nn p0 j n ah aK _ _ bj bk) ?_
  rintro _ bL _ ac ⟨bE, rfl, rfl, bl⟩
  refine ⟨(Ic Mb1 (Ic Mb3 (Ic Mb4 In0))), ?_⟩
  refine Ao 3 Z ?_
  refine jw (T := Ty.i64) (r := [(Vi 0)]) Z Z Z aJ Z Z Z Z Z Z Z Z Z Z (fun bF ce aY b7 => ⟨(Ic Mb2 (Ic Mb4 (Ic Mb5 In0))), ?_⟩)
  refine Ao 6 Z ?_
  refine OpW.shift (Shift.settle (T := Ty.i64) .here aY Z (fun aU X bm => Sd ?_))
  have aZ : RowR fO aU [] [] := RowR.nil
  refine OpW.shift (Shift.nilRow 67 6 (Sd ?_))
  refine OpW.shift (Pu7 (Sd ?_))
  refine OpW.shift (Pu4 (Sd ?_))
  refine OpW.shift (Pu5 (Sd ?_))
  have bn := ((au.mono g).mono ac).mono X
  have bo := (aw.mono ac).mono X
  have bp := ((av.mono g).mono ac).mono X
  have bq := bl.mono X
  have br := (((hT.mono c).mono g).mono ac).mono X
  refine Ek Tryz.call29 Z (Bi 100 h I E e b aa Q J f N M ([] : ad9) fB ([] : List (List Value)) aS bF ah bE S aP aQ aD _ _ bn bo bp aZ bm bq br) ?_
  rintro _ bM _ bY ⟨ch, cf, bW, bU, rfl, rfl, b4, b5⟩
  refine ⟨(Ic Mb0 (Ic Mb6 (Ic Mb7 In0))), ?_⟩
  refine Ja 7 Z<|Ad<|fx<|?_
  obtain aV := gq H
  subst B
  refine ⟨(.inl Z), [(.bool S)], ⟨(.bool S), _, Z, Z, Z⟩, ?_⟩
  exact Re0<|Re0<|Re0<|Re0<|Re0<|Re0<|Re0<|Re0<|Sd<|⟨Z, Z⟩
theorem qx (p0 : Op) (b f : SV) (p1 : Result) (c : Case) (e : Bool) (H : m9 p0 p1 = some (c, e)) (K : Kp) (G : List Ent) (l : Slr fW K (sv b) p0.cases) (B : Slr Ty.i64 K (sv f) p0.draws) :
  Fc Tryz.prog 109 #[(.agg (fj p0 b f).toArray), (.agg (ff p1).toArray)] K (G) (fun v n m => v = (.tuple #[(.agg (fl c).toArray), (.bool e)]) ∧ K = n ∧ G = m) := by
 refine fN Tryz.func109 Z Tryz.ntmps109 Tryz.results109 Z ?_
 unfold m9 at H
 refine fc<|fa<|?_
 refine fe Z (fU (cs := (fj p0 b f)) Z Z Z (fun s => ?_))
 refine fe Z (fU (cs := (ff p1)) Z Z Z (fun t => ?_))
 refine fe Z (fD (cs := (fl (Case.mk false 0 0))) Z Z Z Z (fun u => ?_))
 refine Ea Z<|fb<|fc<|fc<|fa<|EF 0 Z<|El (Vi p0.kind) Z (Rb2 Z)<|Ec Z<|fb<|?_
 refine fm Z ?_ ?_
 ·intro g
  obtain ⟨g, H⟩ := It g H
  refine fc ?_
  refine fz (fun z n m => ∃ (r : Bool), [(2, (Vp s)), (3, (Vp t)), (4, (Vp u)), (21, (.bool r))] = z ∧ K = n ∧ (.blk u 108 (fl (Case.mk false 0 0))) :: (.blk t 38 (ff p1)) :: (.blk s 51 (fj p0 b f)) :: G = m ∧ sc p1 p0 r = some (c, e)) ?_ ?_
  ·refine fa<|EF 1 Z<|El (Vi p1.case_) Z (Rb1 Z)<|Ec Z<|Em Z<|?_
   refine Ee Z ?_ ?_
   ·intro h
    obtain ⟨h, H⟩ := It h H
    exact Ez Z<|Ez Z<|Ez Z<|Ez Z<|Ez Z<|Ez Z<|Et Z<|fb<|Pu2<|Pu2<|Pu2<|Sd<|⟨_, by exact R4, true, Z, Z, Z, H⟩
   ·intro h
    obtain ⟨h, H⟩ := If h H
    exact VF 1 Z<|Vl (Vi p1.case_) Z (Rb1 Z)<|VF 5 Z<|Vl (sv b) Z (Rb2 Z)<|Vq Z (ge (T := fW) l rfl rfl)<|Vc Z<|Ef Z<|fb<|Pu2<|Pu2<|Pu2<|Sd<|⟨_, by exact R4, (dcd (p1.case_ ≥ (p0.cases.length : Int))), rfl, rfl, rfl, H⟩
  rintro _ _ _ - ⟨r, rfl, rfl, rfl, H⟩
  unfold sc at H
  refine fm Z ?_ ?_
  ·intro q
   have H := ift q H
   refine fc<|fa<|Eq Z (fG (cs := (fl (Case.mk false 0 0))) Z Z Z Z Z Z)<|?_
   refine fe Z (Sa (fl (Case.mk false 0 0)) Z .here Z ?_)
   refine Ea Z<|fb<|fx<|?_
   obtain ⟨o, p⟩ := ic H
   subst c e
   refine ⟨(.inl Z), [(.agg (fl (Case.mk false 0 0)).toArray), (.bool false)], ⟨(.agg (fl (Case.mk false 0 0)).toArray), _, Z, ⟨_, 3, (fl (Case.mk false 0 0)), Z, Z, Z, Z, ⟨Z, Rb0 Z⟩, Z⟩, ⟨(.bool false), _, Z, Z, Z⟩⟩, ?_⟩
   exact Re0<|Re0<|Re0<|Sd<|⟨Z, Z, Z⟩
  ·intro q
   have H := f0 (btf q) H
   refine ft<|fc<|fa<|EF 5 Z<|El (sv b) Z (Rb2 Z)<|EF 1 Z<|El (Vi p1.case_) Z (Rb1 Z)<|?_
   obtain ⟨j, x, H⟩ := bnd H
   obtain ⟨_, rfl, A⟩ := Slr.at l x
   refine Eq Z (Qi (T := fW) l x Z)<|EL 3 (fl j) Z (Rdc.k A Z)<|?_
   refine fe Z (Sa (fl j) Z .here Z ?_)
   refine Ea Z<|fb<|fx<|?_
   obtain ⟨o, p⟩ := ic H
   subst c e
   refine ⟨(.inl Z), [(.agg (fl j).toArray), (.bool true)], ⟨(.agg (fl j).toArray), _, Z, ⟨_, 3, (fl j), Z, Z, Z, Z, ⟨Z, Rb0 Z⟩, Z⟩, ⟨(.bool true), _, Z, Z, Z⟩⟩, ?_⟩
   exact Re0<|Re0<|Re0<|Sd<|⟨Z, Z, Z⟩
 ·intro g
  obtain ⟨g, H⟩ := If g H
  refine ft<|fc<|fa<|EL 7 (fj p0 b f) Z (Rb2 Z)<|?_
  obtain ⟨a, y, C, H⟩ := iw H
  refine fe Z (Ek Tryz.call81 Z (Bh p0 b f a y C _ _ l B) ?_)
  rintro _ _ _ - ⟨rfl, rfl, rfl⟩
  refine Em Z<|Ex Z<|Ex Z<|?_
  refine fe Z (fD (cs := (fl (Case.mk false 0 0))) Z Z Z Z (fun D => ?_))
  refine fe Z (Sa (fl a) Z .here Z ?_)
  refine Ea Z<|fb<|fc<|?_
  rcases gY y with w | w <;> revert w
  ·intro i
   have H := ift i H
   refine fw _ Z (Ic Mb0 (Ic Mb2 (Ic Mb3 In0)))<|JL 0 3 (fl a) Z (Rb0 Z)<|Jm 1 Z<|Jm 2 Z<|Aw.known (d := 36) Z (i)<|BF 3 1 Z<|Bl 4 (Vi p1.case_) Z (Rb1 Z)<|Bc 5 Z<|Jt 6 Z<|?_
   refine Ao 7 Z ?_
   refine Sa (fl a) Z (.there .here) Z ⟨(Ic Mb0 (Ic Mb2 (Ic Mb3 In0))), ?_⟩
   refine Ja 8 Z<|Ad<|fx<|?_
   obtain ⟨o, p⟩ := ic H
   subst c e
   refine ⟨(.inl Z), [(.agg (fl a).toArray), (.bool (dcd (p1.case_ = (-1))))], ⟨(.agg (fl a).toArray), _, Z, ⟨_, 3, (fl a), Z, Z, Z, Z, ⟨Z, Rb1 Z⟩, Z⟩, ⟨(.bool (dcd (p1.case_ = (-1)))), _, Z, Z, Z⟩⟩, ?_⟩
   exact Re0<|Re0<|Re0<|Re0<|Sd<|⟨Z, Z, Z⟩
  ·intro i
   have H := f0 (btf i) H
   refine fw _ Z (Ic Mb0 (Ic Mb2 (Ic Mb3 In0)))<|JL 0 3 (fl a) Z (Rb0 Z)<|Jm 1 Z<|Jm 2 Z<|Aw.known (d := 36) Z (i)<|Jz 3 Z<|Jz 4 Z<|Jz 5 Z<|Jf 6 Z<|?_
   refine Ao 7 Z ?_
   refine Sa (fl a) Z (.there .here) Z ⟨(Ic Mb0 (Ic Mb2 (Ic Mb3 In0))), ?_⟩
   refine Ja 8 Z<|Ad<|fx<|?_
   obtain ⟨o, p⟩ := ic H
   subst c e
   refine ⟨(.inl Z), [(.agg (fl a).toArray), (.bool false)], ⟨(.agg (fl a).toArray), _, Z, ⟨_, 3, (fl a), Z, Z, Z, Z, ⟨Z, Rb1 Z⟩, Z⟩, ⟨(.bool false), _, Z, Z, Z⟩⟩, ?_⟩
   exact Re0<|Re0<|Re0<|Re0<|Sd<|⟨Z, Z, Z⟩
theorem iQ (p0 : Result) (p1 p2 d : Bool) (H : mi p0 p1 p2 = some d) (K : Kp) (G : List Ent)  :
  Fc Tryz.prog 111 #[(.agg (ff p0).toArray), (.bool p1), (.bool p2)] K (G) (fun v f e => v = (.bool d) ∧ K = f ∧ G = e) := by
 refine fN Tryz.func111 Z Tryz.ntmps111 Tryz.results111 Z ?_
 unfold mi at H
 refine fc<|fa<|?_
 refine fe Z (fU (cs := (ff p0)) Z Z Z (fun k => ?_))
 refine Ea Z<|fb<|?_
 refine fz (fun j f e => ∃ (c : Bool), [(6, (.bool c))] = j ∧ K = f ∧ G = e ∧ na c = some d) ?_ ?_
 ·refine fa<|Em Z<|Em Z<|?_
  refine Ee Z ?_ ?_
  ·intro g
   have H := ift g H
   refine Ez Z<|Ez Z<|Ez Z<|Ez Z<|ga Z Z Z Z rfl<|ga Z Z Z Z rfl<|ga Z Z Z Z rfl<|Ez Z<|Et Z<|Em Z<|Vm Z<|Vm Z<|?_
   refine Ee Z ?_ ?_
   ·intro h
    have H := ift h H
    exact Ez Z<|Ez Z<|Ez Z<|Vt Z<|Et Z<|Ea Z<|fb<|Re0<|Sd<|⟨_, by exact R1, true, Z, Z, Z, H⟩
   ·intro h
    have H := f0 (btf h) H
    exact VF 4 Z<|Vl (Vi p0.number) Z (Rb0 Z)<|Vc Z<|Vf Z<|Et Z<|Ea Z<|fb<|Re0<|Sd<|⟨_, by exact R1, (dcd (p0.number = 0)), Z, Z, Z, H⟩
  ·intro g
   have H := f0 (btf g) H
   refine VF 2 Z<|Vl (.int .u64 p0.value) Z (Rb0 Z)<|Vc Z<|Vm Z<|?_
   refine Ee Z ?_ ?_
   ·intro b
    obtain ⟨b, H⟩ := It b H
    refine VF 3 Z<|Vl (.bool p0.ok) Z (Rb0 Z)<|Vq Z (gf Z)<|Vt Z<|Ef Z<|Em Z<|?_
    refine Ee Z ?_ ?_
    ·intro a
     have a := iv a
     have H := f0 (btf a) H
     refine Vm Z<|Vm Z<|?_
     refine Ee Z ?_ ?_
     ·intro i
      have H := ift i H
      exact Ez Z<|Ez Z<|Ez Z<|Vt Z<|Et Z<|Ea Z<|fb<|Re0<|Sd<|⟨_, by exact R1, true, Z, Z, Z, H⟩
     ·intro i
      have H := f0 (btf i) H
      exact VF 4 Z<|Vl (Vi p0.number) Z (Rb0 Z)<|Vc Z<|Vf Z<|Et Z<|Ea Z<|fb<|Re0<|Sd<|⟨_, by exact R1, (dcd (p0.number = 0)), Z, Z, Z, H⟩
    ·intro a
     have a := ir a
     have H := ift a H
     exact Ez Z<|Ez Z<|ga Z Z Z Z rfl<|ga Z Z Z Z rfl<|ga Z Z Z Z rfl<|Ez Z<|Ef Z<|Ea Z<|fb<|Re0<|Sd<|⟨_, by exact R1, false, Z, Z, Z, H⟩
   ·intro b
    obtain ⟨b, H⟩ := If b H
    exact Ez Z<|Ez Z<|Ez Z<|Vf Z<|Ef Z<|Em Z<|Ez Z<|Ez Z<|ga Z Z Z Z rfl<|ga Z Z Z Z rfl<|ga Z Z Z Z rfl<|Ez Z<|Ef Z<|Ea Z<|fb<|Re0<|Sd<|⟨_, by exact R1, false, Z, Z, Z, H⟩
 rintro _ _ _ - ⟨c, rfl, rfl, rfl, H⟩
 unfold na at H
 refine fx ?_
 obtain l := gq H
 subst d
 refine ⟨(.inl Z), [(.bool c)], ⟨(.bool c), _, Z, Z, Z⟩, ?_⟩
 exact Sd ⟨Z, Z, Z⟩
theorem xM (p0 : ad1) (i : SV) (p1 : Int) (p2 : fL) (a : SV) (e : ad1) (H : s8 p0 p1 p2 = some e) (K : Kp) (G : List Ent) (n : Slr fH K (sv i) p0) (o : Slr Ty.u64 K (sv a) p2.buffer) :
  Fc Tryz.prog 112 #[(sv i), (Vi p1), (.agg (fy p2 a).toArray)] K (G) (fun v f k => ∃ (j : SV) (h : List (List Value)), v = (sv j) ∧ K = f ∧ (.row (sv j) 104 3 h.flatten) :: G = k ∧ RowR fH f h e) := by
 refine fN Tryz.func112 Z Tryz.ntmps112 Tryz.results112 Z ?_
 unfold s8 at H
 refine fc<|fa<|?_
 refine fe Z (fU (cs := (fy p2 a)) Z Z Z (fun s => ?_))
 refine Ea Z<|fb<|fc<|fa<|Em Z<|?_
 have l : RowR fH K [] [] := RowR.nil
 refine Ow.shift (Shift.nilRow 104 3 (Sd ?_))
 obtain ⟨x19, q, H⟩ := bnd H
 refine fe Z (gZ (T := fH) (bytes := 40) Z Z Z Mb0 l (SrcT.sl n) q Z Z Z Z Z Z Z Z (fun d r b => ⟨_, .here, ?_⟩))
 refine Ea Z<|fb<|fc<|fa<|Em Z<|Em Z<|EL 3 (fy p2 a) Z (Rb1 Z)<|?_
 obtain ⟨z, g, H⟩ := bnd H
 obtain ⟨x, c, p⟩ := RowR.at b g
 obtain ⟨y, rfl, w⟩ := p
 refine Eq Z (gP (T := fH) Mb0 b c (fR g).1 Z Z Z Z Z) ?_
 refine fe Z (gX (T := fH) (vs := (fy p2 a)) (r' := (fy p2 a)) (l' := (gb x19 p1 p2)) Z Z Z Z Z .here b c Z Z Z (RowR.set p1 b ⟨a, Z, o⟩) (fun m => ?_))
 have u := iV c (v := (fy p2 a))
 refine fb<|fc<|fa<|Em Z<|Ea Z<|fb<|fx<|?_
 obtain t := gq H
 subst e
 refine ⟨(.inl Z), [(sv d)], ⟨(sv d), _, Z, Z, Z⟩, ?_⟩
 exact Re1<|Sd<|⟨d, (r.set p1.toNat (fy p2 a)), Z, Z, Z, m⟩
theorem Bj (p0 : ad1) (b : SV) (p1 : Case) (p2 : Result) (e : ad1) (f : Bool) (H : te p0 p1 p2 = some (e, f)) (K : Kp) (G : List Ent) (w : Slr fH K (sv b) p0) :
  Fc Tryz.prog 110 #[(sv b), (.agg (fl p1).toArray), (.agg (ff p2).toArray)] K (G) (fun v h g => ∃ (aA : SV), v = (.tuple #[(sv aA), (.bool f)]) ∧ G = g ∧ Slr fH h (sv aA) e) := by
 refine fN Tryz.func110 Z Tryz.ntmps110 Tryz.results110 Z ?_
 unfold te at H
 refine fc<|fa<|?_
 refine fe Z (fU (cs := (fl p1)) Z Z Z (fun n => ?_))
 refine fe Z (fU (cs := (ff p2)) Z Z Z (fun r => ?_))
 refine Ea Z<|Ea Z<|fb<|fc<|fc<|fa<|Em Z<|EF 1 Z<|El (Vi p1.channel) Z (Rb1 Z)<|?_
 obtain ⟨a2, aY, H⟩ := bnd H
 refine fe Z (Ek Tryz.call107 Z (lJ p0 b p1.channel a2 aY _ _ w) ?_)
 rintro _ _ _ - ⟨rfl, rfl, rfl⟩
 refine Eq Z (gf Z)<|fb<|?_
 refine fm Z ?_ ?_
 ·intro x
  have x := iv x
  have H := f0 (btf x) H
  refine fc<|fa<|Ea Z<|Ea Z<|fb<|fx<|?_
  obtain ⟨s, t⟩ := ic H
  subst e f
  refine ⟨(.inl Z), [(sv fB), (.bool false)], ⟨(sv fB), _, Z, Z, ⟨(.bool false), _, Z, Z, Z⟩⟩, ?_⟩
  exact Re0<|Re0<|Sd<|⟨fB, Z, Z, (Slr.nil fH _)⟩
 ·intro x
  have x := ir x
  have H := ift x H
  refine ft<|fc<|fa<|Em Z<|EF 1 Z<|El (Vi p1.channel) Z (Rb1 Z)<|?_
  obtain ⟨a, aw, H⟩ := bnd H
  obtain ⟨bk, aI, aG⟩ := Slr.at w aw
  obtain ⟨c, rfl, o⟩ := aI
  refine Eq Z (Qi (T := fH) w aw Z)<|EL 3 (fy a c) Z (Rdc.k aG Z)<|?_
  refine fe Z (fD (cs := (fy (fL.mk 0 [] false) fB)) Z Z Z Z (fun m => ?_))
  refine fe Z (Sa (fy a c) Z .here Z ?_)
  refine fb<|fc<|fA<|?_
  refine fz (fun j h g => ∃ (ae : Bool), [(0, (sv b)), (4, (Vp n)), (5, (Vp r)), (8, (Vp m)), (19, (.bool ae))] = j ∧ K = h ∧ (.blk m 104 (fy a c)) :: (.blk r 38 (ff p2)) :: (.blk n 108 (fl p1)) :: G = g ∧ td p0 a p2 p1 ae = some (e, f)) ?_ ?_
  ·refine fa<|EF 0 Z<|El (Vi p2.kind) Z (Rb1 Z)<|Ec Z<|Em Z<|?_
   refine Ee Z ?_ ?_
   ·intro F
    obtain ⟨F, H⟩ := It F H
    exact VF 0 Z<|Vl (.bool p1.send) Z (Rb2 Z)<|Et Z<|Ea Z<|fb<|Pu2<|Pu2<|Pu2<|Sd<|⟨_, by exact R5, p1.send, Z, Z, Z, H⟩
   ·intro F
    obtain ⟨F, H⟩ := If F H
    exact Ez Z<|Ez Z<|Ef Z<|Ea Z<|fb<|Pu2<|Pu2<|Pu2<|Sd<|⟨_, by exact R5, false, Z, Z, Z, H⟩
  rintro _ _ _ - ⟨ae, rfl, rfl, rfl, H⟩
  unfold td at H
  refine fm Z ?_ ?_
  ·intro S
   have H := ift S H
   refine fc ?_
   refine fz (fun j h g => ∃ (af : Bool), [(0, (sv b)), (4, (Vp n)), (8, (Vp m)), (41, (.bool af))] = j ∧ K = h ∧ (.blk m 104 (fy a c)) :: (.blk n 108 (fl p1)) :: G = g ∧ oS p0 a p1 af = some (e, f)) ?_ ?_
   ·refine fa<|EL 5 (ff p2) Z (Rb1 Z)<|?_
    obtain ⟨a3, aZ, H⟩ := bnd H
    refine fe Z (Ek Tryz.call111 Z (iQ p2 false false a3 aZ _ _ ) ?_)
    rintro _ _ _ - ⟨rfl, rfl, rfl⟩
    refine Eq Z (gf Z)<|Em Z<|?_
    refine Ee Z ?_ ?_
    ·intro y
     have y := iv y
     have H := f0 (btf y) H
     exact Ez Z<|Ez Z<|Et Z<|Em Z<|Ez Z<|Ez Z<|Ez Z<|Ez Z<|Ez Z<|Ez Z<|Et Z<|fb<|Pu2<|Pu1<|Re2<|Sd<|⟨_, by exact R4, true, Z, Z, Z, H⟩
    ·intro y
     have y := ir y
     have H := ift y H
     refine VF 2 Z<|Vl (.bool a.closed) Z (Rb0 Z)<|Ef Z<|Em Z<|?_
     refine Ee Z ?_ ?_
     ·intro U
      have H := ift U H
      exact Ez Z<|Ez Z<|Ez Z<|Ez Z<|Ez Z<|Ez Z<|Et Z<|fb<|Pu2<|Pu1<|Re2<|Sd<|⟨_, by exact R4, true, Z, Z, Z, H⟩
     ·intro U
      have H := f0 (btf U) H
      exact VF 1 Z<|Vl (sv c) Z (Rb0 Z)<|Vq Z (ge (T := Ty.u64) o Z Z)<|VF 0 Z<|Vl (Vi a.capacity) Z (Rb0 Z)<|Vc Z<|Ef Z<|fb<|Pu2<|Pu1<|Re2<|Sd<|⟨_, by exact R4, (dcd ((a.buffer.length : Int) ≥ a.capacity)), Z, Z, Z, H⟩
   rintro _ _ _ - ⟨af, rfl, rfl, rfl, H⟩
   unfold oS at H
   refine fm Z ?_ ?_
   ·intro V
    have H := ift V H
    refine fc<|fa<|Ea Z<|Ea Z<|fb<|fx<|?_
    obtain ⟨s, t⟩ := ic H
    subst e f
    refine ⟨(.inl Z), [(sv fB), (.bool false)], ⟨(sv fB), _, Z, Z, ⟨(.bool false), _, Z, Z, Z⟩⟩, ?_⟩
    exact Re0<|Re0<|Sd<|⟨fB, Z, Z, (Slr.nil fH _)⟩
   ·intro V
    have H := f0 (btf V) H
    refine ft ?_
    refine fz (fun j h g => ∃ (D : SV) (C : ad2), [(0, (sv b)), (4, (Vp n)), (8, (Vp m))] = j ∧ (.blk m 104 (fy (fL.mk a.capacity C a.closed) D)) :: (.blk n 108 (fl p1)) :: (.tok 36 1 [(sv D)]) :: G = g ∧ wH p0 a p1 C = some (e, f) ∧ Slr Ty.u64 h (sv D) C) ?_ ?_
    ·obtain ⟨bt, ab, H⟩ := bnd H
     obtain ⟨E, ac, H⟩ := bnd H
     refine fw _ Z (Ic Mb1 In0)<|JF 0 1 Z<|JF 3 2 Z<|Jl 4 (.int .u64 p1.value) Z (Rb0 Z)<|?_
     refine gW 1 5 (by kernel_rfl) ?_ ?_
     ·refine id (Jyq Z (gr (v := (sv c)) Z Z Z (Rb0 Z)) ⟨(Ic Mb1 In0), ?_⟩)
      refine gW 2 5 (by kernel_rfl) ?_ ?_
      ·refine id (Jy Z ?_)
       refine OpW.shift (Shift.nilTok1 36 1 (Sd ?_))
       refine f8 (T := Ty.u64) (bytes := 8) (q := 0) Z Z Z (Slr.nil Ty.u64 _) Mb0 Z (SrcT.sl o) ab Z Z Z Z Z Z Z Z (fun bn aC be aK => ⟨_, .here, ⟨(Ic Mb2 In0), ?_⟩⟩)
       refine Ao 5 Z ?_
       have ar : RowR Ty.u64 aC [[(.int .u64 p1.value)]] [p1.value] := RowR.cons Z (RowR.nil)
       refine gh (T := Ty.u64) (rows := [[(.int .u64 p1.value)]]) (l := [p1.value]) Z Z Z ar Z Z Z Z Z Z Z Z (fun bo => ⟨(Ic Mb3 In0), ?_⟩)
       refine Ao 6 Z ?_
       refine f8 (T := Ty.u64) (bytes := 8) (q := 0) Z Z Z aK Mb1 Z (SrcT.row Mb0 ar Z) ac Z Z Z Z Z Z Z Z (fun ak a6 bf aL => ⟨_, (.there .here), ⟨(Ic Mb3 In0), ?_⟩⟩)
       refine Aw.shift (Re0 (Sd ⟨(Ic Mb2 In0), ?_⟩))
       refine JF 7 1 Z ?_
       refine Ao 8 Z ?_
       refine So [(sv ak)] (fy (fL.mk a.capacity E a.closed) ak) Z (.there .here) Z ⟨(Ic Mb2 In0), ?_⟩
       exact Ad<|Pu2<|Pu2<|Sd<|⟨_, by exact R3, ak, E, Z, Z, H, aL⟩
      ·refine id (Jy Z ?_)
       have au : RowR Ty.u64 K [[(.int .u64 p1.value)]] [p1.value] := RowR.cons Z (RowR.nil)
       refine gh (T := Ty.u64) (rows := [[(.int .u64 p1.value)]]) (l := [p1.value]) Z Z Z au Z Z Z Z Z Z Z Z (fun bp => ⟨(Ic Mb2 In0), ?_⟩)
       refine Ao 2 Z ?_
       refine OpW.shift (Shift.nilTok1 36 1 (Sd ?_))
       refine f8 (T := Ty.u64) (bytes := 8) (q := 0) Z Z Z (Slr.nil Ty.u64 _) Mb0 Z (SrcT.sl o) ab Z Z Z Z Z Z Z Z (fun bq a7 aD aM => ⟨_, .here, ⟨(Ic Mb3 In0), ?_⟩⟩)
       refine Ao 6 Z ?_
       have aN := au.mono aD
       refine f8 (T := Ty.u64) (bytes := 8) (q := 0) Z Z Z aM Mb0 Z (SrcT.row Mb1 aN Z) ac Z Z Z Z Z Z Z Z (fun al a8 bg aO => ⟨_, .here, ⟨(Ic Mb3 In0), ?_⟩⟩)
       refine Aw.shift (Re1 (Sd ⟨(Ic Mb2 In0), ?_⟩))
       refine JF 7 1 Z ?_
       refine Ao 8 Z ?_
       refine So [(sv al)] (fy (fL.mk a.capacity E a.closed) al) Z (.there .here) Z ⟨(Ic Mb2 In0), ?_⟩
       exact Ad<|Pu2<|Pu2<|Sd<|⟨_, by exact R3, al, E, Z, Z, H, aO⟩
     ·refine id (Jy Z ?_)
      have av : RowR Ty.u64 K [[(.int .u64 p1.value)]] [p1.value] := RowR.cons Z (RowR.nil)
      refine gh (T := Ty.u64) (rows := [[(.int .u64 p1.value)]]) (l := [p1.value]) Z Z Z av Z Z Z Z Z Z Z Z (fun br => ⟨(Ic Mb2 In0), ?_⟩)
      refine gB 1 (by kernel_rfl) (Jyq Z (gr (v := (sv c)) Z Z Z (Rb1 Z)) ⟨(Ic Mb2 In0), ?_⟩)
      refine Ao 2 Z ?_
      refine OpW.shift (Shift.nilTok1 36 1 (Sd ?_))
      refine f8 (T := Ty.u64) (bytes := 8) (q := 0) Z Z Z (Slr.nil Ty.u64 _) Mb0 Z (SrcT.sl o) ab Z Z Z Z Z Z Z Z (fun bs a9 aE aP => ⟨_, .here, ⟨(Ic Mb3 In0), ?_⟩⟩)
      refine Ao 6 Z ?_
      have aQ := av.mono aE
      refine f8 (T := Ty.u64) (bytes := 8) (q := 0) Z Z Z aP Mb0 Z (SrcT.row Mb1 aQ Z) ac Z Z Z Z Z Z Z Z (fun am ba bh aR => ⟨_, .here, ⟨(Ic Mb3 In0), ?_⟩⟩)
      refine Aw.shift (Re1 (Sd ⟨(Ic Mb2 In0), ?_⟩))
      refine JF 7 1 Z ?_
      refine Ao 8 Z ?_
      refine So [(sv am)] (fy (fL.mk a.capacity E a.closed) am) Z (.there .here) Z ⟨(Ic Mb2 In0), ?_⟩
      exact Ad<|Pu2<|Pu2<|Sd<|⟨_, by exact R3, am, E, Z, Z, H, aR⟩
    rintro _ bb _ aF ⟨D, C, rfl, rfl, H, aJ⟩
    unfold wH at H
    refine fc<|fa<|Em Z<|EF 1 Z<|El (Vi p1.channel) Z (Rb1 Z)<|EL 3 (fy (fL.mk a.capacity C a.closed) D) Z (Rb0 Z)<|?_
    obtain ⟨a4, a0, H⟩ := bnd H
    have aS := w.mono aF
    refine fe Z (Ek Tryz.call112 Z (xM p0 b p1.channel (fL.mk a.capacity C a.closed) D a4 a0 _ _ aS aJ) ?_)
    rintro _ _ _ - ⟨an, bl, rfl, rfl, rfl, aT⟩
    refine Ea Z<|Ea Z<|fb<|fx<|?_
    obtain ⟨s, t⟩ := ic H
    subst e f
    refine ⟨(.inl Z), [(sv an), (.bool true)], ⟨(sv an), _, Z, Z, ⟨(.bool true), _, Z, Z, Z⟩⟩, ?_⟩
    refine Shift.settle (T := fH) .here aT Z ?_
    intro bc bi aU
    exact Re0<|Re0<|Re0<|Re0<|Sd<|⟨an, Z, Z, aU⟩
  ·intro S
   have H := f0 (btf S) H
   refine fz (fun j h g => ∃ (ag : Bool), [(0, (sv b)), (4, (Vp n)), (5, (Vp r)), (8, (Vp m)), (55, (.bool ag))] = j ∧ K = h ∧ (.blk m 104 (fy a c)) :: (.blk r 38 (ff p2)) :: (.blk n 108 (fl p1)) :: G = g ∧ tc p0 a p2 p1 ag = some (e, f)) ?_ ?_
   ·refine fa<|EF 0 Z<|El (Vi p2.kind) Z (Rb1 Z)<|Ec Z<|Em Z<|?_
    refine Ee Z ?_ ?_
    ·intro I
     obtain ⟨I, H⟩ := It I H
     exact VF 0 Z<|Vl (.bool p1.send) Z (Rb2 Z)<|Et Z<|Ea Z<|fb<|Pu2<|Pu2<|Pu2<|Sd<|⟨_, by exact R5, p1.send, Z, Z, Z, H⟩
    ·intro I
     obtain ⟨I, H⟩ := If I H
     exact Ez Z<|Ez Z<|Ef Z<|Ea Z<|fb<|Pu2<|Pu2<|Pu2<|Sd<|⟨_, by exact R5, false, Z, Z, Z, H⟩
   rintro _ _ _ - ⟨ag, rfl, rfl, rfl, H⟩
   unfold tc at H
   refine fm Z ?_ ?_
   ·intro W
    have H := ift W H
    refine fc ?_
    obtain ⟨ap, ax, H⟩ := bnd H
    rcases gY ap with i | i <;> revert i
    ·intro J
     have H := ift J H
     refine fw _ Z (Ic Mb0 (Ic Mb1 (Ic Mb2 In0)))<|Jm 0 Z<|JL 1 5 (ff p2) Z (Rb1 Z)<|?_
     refine Ao 2 Z ?_
     refine Ek Tryz.call111 Z (iQ p2 false false ap ax _ _ ) ?_
     rintro _ _ _ - ⟨rfl, rfl, rfl⟩
     refine ⟨(Ic Mb0 (Ic Mb1 (Ic Mb2 In0))), ?_⟩
     refine Jm 3 Z<|Aw.known (d := 66) Z (J)<|BF 4 2 Z<|Bl 5 (.bool a.closed) Z (Rb0 Z)<|Jt 6 Z<|Ja 7 Z<|Ja 8 Z<|Ad<|fx<|?_
     obtain ⟨s, t⟩ := ic H
     subst e f
     refine ⟨(.inl Z), [(sv b), (.bool a.closed)], ⟨(sv b), _, Z, Z, ⟨(.bool a.closed), _, Z, Z, Z⟩⟩, ?_⟩
     exact Re0<|Re0<|Re0<|Sd<|⟨b, Z, Z, w⟩
    ·intro J
     have H := f0 (btf J) H
     refine fw _ Z (Ic Mb0 (Ic Mb1 (Ic Mb2 In0)))<|Jm 0 Z<|JL 1 5 (ff p2) Z (Rb1 Z)<|?_
     refine Ao 2 Z ?_
     refine Ek Tryz.call111 Z (iQ p2 false false ap ax _ _ ) ?_
     rintro _ _ _ - ⟨rfl, rfl, rfl⟩
     refine ⟨(Ic Mb0 (Ic Mb1 (Ic Mb2 In0))), ?_⟩
     refine Jm 3 Z<|Aw.known (d := 66) Z (J)<|Jz 4 Z<|Jz 5 Z<|Jf 6 Z<|Ja 7 Z<|Ja 8 Z<|Ad<|fx<|?_
     obtain ⟨s, t⟩ := ic H
     subst e f
     refine ⟨(.inl Z), [(sv b), (.bool false)], ⟨(sv b), _, Z, Z, ⟨(.bool false), _, Z, Z, Z⟩⟩, ?_⟩
     exact Re0<|Re0<|Re0<|Sd<|⟨b, Z, Z, w⟩
   ·intro W
    have H := f0 (btf W) H
    refine fz (fun j h g => ∃ (ah : Bool), [(0, (sv b)), (4, (Vp n)), (5, (Vp r)), (8, (Vp m)), (70, (.bool ah))] = j ∧ K = h ∧ (.blk m 104 (fy a c)) :: (.blk r 38 (ff p2)) :: (.blk n 108 (fl p1)) :: G = g ∧ pQ p0 a p2 p1 ah = some (e, f)) ?_ ?_
    ·refine fa<|EF 0 Z<|El (Vi p2.kind) Z (Rb1 Z)<|Ec Z<|Em Z<|?_
     refine Ee Z ?_ ?_
     ·intro L
      obtain ⟨L, H⟩ := It L H
      refine VF 0 Z<|Vl (.bool p1.send) Z (Rb2 Z)<|Vq Z (gf Z)<|Et Z<|Em Z<|?_
      refine Ee Z ?_ ?_
      ·intro z
       have z := iv z
       have H := f0 (btf z) H
       exact VF 3 Z<|Vl (.bool p2.ok) Z (Rb1 Z)<|Et Z<|Ea Z<|fb<|Pu2<|Pu2<|Pu2<|Sd<|⟨_, by exact R5, p2.ok, Z, Z, Z, H⟩
      ·intro z
       have z := ir z
       have H := ift z H
       exact Ez Z<|Ez Z<|Ef Z<|Ea Z<|fb<|Pu2<|Pu2<|Pu2<|Sd<|⟨_, by exact R5, false, Z, Z, Z, H⟩
     ·intro L
      obtain ⟨L, H⟩ := If L H
      exact Ez Z<|Ez Z<|Ez Z<|Ef Z<|Em Z<|Ez Z<|Ez Z<|Ef Z<|Ea Z<|fb<|Pu2<|Pu2<|Pu2<|Sd<|⟨_, by exact R5, false, Z, Z, Z, H⟩
    rintro _ _ _ - ⟨ah, rfl, rfl, rfl, H⟩
    unfold pQ at H
    refine fm Z ?_ ?_
    ·intro X
     have H := ift X H
     refine fc ?_
     refine fz (fun j h g => ∃ (ai : Bool), [(0, (sv b)), (4, (Vp n)), (8, (Vp m)), (100, (.bool ai))] = j ∧ K = h ∧ (.blk m 104 (fy a c)) :: (.blk n 108 (fl p1)) :: G = g ∧ oU p0 a p1 ai = some (e, f)) ?_ ?_
     ·obtain ⟨R, ad, H⟩ := bnd H
      rcases gY (!(R)) with i | i <;> revert i
      ·intro p
       have p := iv p
       have H := f0 (btf p) H
       refine fw _ Z (Ic Mb0 (Ic Mb1 (Ic Mb2 In0)))<|JL 0 5 (ff p2) Z (Rb1 Z)<|?_
       refine Ao 1 Z ?_
       refine Ek Tryz.call111 Z (iQ p2 true false R ad _ _ ) ?_
       rintro _ _ _ - ⟨rfl, rfl, rfl⟩
       refine ⟨(Ic Mb0 (Ic Mb1 (Ic Mb2 In0))), ?_⟩
       exact Jq 2 Z (gf Z)<|Jm 3 Z<|Aw.known (d := 86) Z (lB (p))<|Jz 4 Z<|Jz 5 Z<|Jz 6 Z<|Jz 7 Z<|Jt 8 Z<|Jm 9 Z<|Jz 10 Z<|Jz 11 Z<|Jz 12 Z<|Jz 13 Z<|Jz 14 Z<|Jz 15 Z<|Jz 16 Z<|Jt 17 Z<|Ad<|Pu2<|Pu1<|Re2<|Sd<|⟨_, by exact R4, true, Z, Z, Z, H⟩
      ·intro p
       have p := ir p
       have H := ift p H
       rcases gY (dcd ((a.buffer.length : Int) = 0)) with i | i <;> revert i
       ·intro A
        obtain ⟨A, H⟩ := It A H
        refine fw _ Z (Ic Mb0 (Ic Mb1 (Ic Mb2 In0)))<|JL 0 5 (ff p2) Z (Rb1 Z)<|?_
        refine Ao 1 Z ?_
        refine Ek Tryz.call111 Z (iQ p2 true false R ad _ _ ) ?_
        rintro _ _ _ - ⟨rfl, rfl, rfl⟩
        refine ⟨(Ic Mb0 (Ic Mb1 (Ic Mb2 In0))), ?_⟩
        exact Jq 2 Z (gf Z)<|Jm 3 Z<|Aw.known (d := 86) Z (lA (p))<|BF 4 1 Z<|Bl 5 (sv c) Z (Rb0 Z)<|Bq 6 Z (ge (T := Ty.u64) o Z Z)<|Bc 7 Z<|Jf 8 Z<|Jm 9 Z<|Aw.known (d := 92) Z (hX A)<|Jz 10 Z<|Jz 11 Z<|Jz 12 Z<|Jz 13 Z<|Jz 14 Z<|Jz 15 Z<|Jz 16 Z<|Jt 17 Z<|Ad<|Pu2<|Pu1<|Re2<|Sd ⟨_, by exact R4, true, Z, Z, Z, H⟩
       ·intro A
        obtain ⟨A, H⟩ := If A H
        obtain ⟨aB, ay, H⟩ := bnd H
        refine fw _ Z (Ic Mb0 (Ic Mb1 (Ic Mb2 In0)))<|JL 0 5 (ff p2) Z (Rb1 Z)<|?_
        refine Ao 1 Z ?_
        refine Ek Tryz.call111 Z (iQ p2 true false R ad _ _ ) ?_
        rintro _ _ _ - ⟨rfl, rfl, rfl⟩
        refine ⟨(Ic Mb0 (Ic Mb1 (Ic Mb2 In0))), ?_⟩
        refine Jq 2 Z (gf Z)<|Jm 3 Z<|Aw.known (d := 86) Z (lA (p))<|BF 4 1 Z<|Bl 5 (sv c) Z (Rb0 Z)<|Bq 6 Z (ge (T := Ty.u64) o Z Z)<|Bc 7 Z<|Jf 8 Z<|Jm 9 Z<|Aw.known (d := 92) Z (iE A)<|BF 10 1 Z<|Bl 11 (sv c) Z (Rb0 Z)<|?_
        obtain ⟨_, rfl, aH⟩ := Slr.at o ay
        exact Bq 12 Z (Qi (T := Ty.u64) o ay Z)<|Bl 13 (.int .u64 aB) Z (Rdc.k aH Z)<|BF 14 2 Z<|Bl 15 (.int .u64 p2.value) Z (Rb1 Z)<|Bc 16 Z<|Jf 17 Z<|Ad<|Pu2<|Pu1<|Re2<|Sd<|⟨_, by exact R4, (!(dcd (aB = p2.value))), Z, Z, Z, H⟩
     rintro _ _ _ - ⟨ai, rfl, rfl, rfl, H⟩
     unfold oU at H
     refine fm Z ?_ ?_
     ·intro Y
      have H := ift Y H
      refine fc<|fa<|Ea Z<|Ea Z<|fb<|fx<|?_
      obtain ⟨s, t⟩ := ic H
      subst e f
      refine ⟨(.inl Z), [(sv fB), (.bool false)], ⟨(sv fB), _, Z, Z, ⟨(.bool false), _, Z, Z, Z⟩⟩, ?_⟩
      exact Re0<|Re0<|Sd<|⟨fB, Z, Z, (Slr.nil fH _)⟩
     ·intro Y
      have H := f0 (btf Y) H
      refine ft<|fc<|fa<|EF 1 Z<|El (sv c) Z (Rb0 Z)<|?_
      obtain ⟨aq, az, H⟩ := bnd H
      have aV := Slr.cutL o az
      refine Eq Z (lg (T := Ty.u64) o az Z Z Z Z Z)<|EF 1 Z<|?_
      refine fe Z (So [(sv (iR c 1 ((1 : Int).toNat) a.buffer.length))] (fy (fL.mk a.capacity aq a.closed) (iR c 1 ((1 : Int).toNat) a.buffer.length)) Z .here Z ?_)
      refine fb<|fc<|fa<|Em Z<|EF 1 Z<|El (Vi p1.channel) Z (Rb1 Z)<|EL 3 (fy (fL.mk a.capacity aq a.closed) (iR c 1 ((1 : Int).toNat) a.buffer.length)) Z (Rb0 Z)<|?_
      obtain ⟨a5, a1, H⟩ := bnd H
      refine fe Z (Ek Tryz.call112 Z (xM p0 b p1.channel (fL.mk a.capacity aq a.closed) (iR c 1 ((1 : Int).toNat) a.buffer.length) a5 a1 _ _ w aV) ?_)
      rintro _ _ _ - ⟨ao, bm, rfl, rfl, rfl, aW⟩
      refine Ea Z<|Ea Z<|fb<|fx<|?_
      obtain ⟨s, t⟩ := ic H
      subst e f
      refine ⟨(.inl Z), [(sv ao), (.bool true)], ⟨(sv ao), _, Z, Z, ⟨(.bool true), _, Z, Z, Z⟩⟩, ?_⟩
      refine Shift.settle (T := fH) .here aW Z ?_
      intro bd bj aX
      exact Re0<|Re0<|Re0<|Sd<|⟨ao, Z, Z, aX⟩
    ·intro X
     have H := f0 (btf X) H
     refine fz (fun j h g => ∃ (aj : Bool), [(0, (sv b)), (5, (Vp r)), (8, (Vp m)), (110, (.bool aj))] = j ∧ K = h ∧ (.blk m 104 (fy a c)) :: (.blk r 38 (ff p2)) :: G = g ∧ ta p0 a p2 aj = some (e, f)) ?_ ?_
     ·refine fa<|EF 0 Z<|El (Vi p2.kind) Z (Rb1 Z)<|Ec Z<|Em Z<|?_
      refine Ee Z ?_ ?_
      ·intro M
       obtain ⟨M, H⟩ := It M H
       exact VF 0 Z<|Vl (.bool p1.send) Z (Rb2 Z)<|Vq Z (gf Z)<|Et Z<|Ea Z<|fb<|Pu1<|Pu1<|Re2<|Sd<|⟨_, by exact R4, (!(p1.send)), Z, Z, Z, H⟩
      ·intro M
       obtain ⟨M, H⟩ := If M H
       exact Ez Z<|Ez Z<|Ez Z<|Ef Z<|Ea Z<|fb<|Pu1<|Pu1<|Re2<|Sd<|⟨_, by exact R4, false, Z, Z, Z, H⟩
     rintro _ _ _ - ⟨aj, rfl, rfl, rfl, H⟩
     unfold ta at H
     refine fm Z ?_ ?_
     ·intro aa
      have H := ift aa H
      refine fz (fun j h g => ∃ (O : Bool), [(6, (sv b)), (7, (.bool O))] = j ∧ K = h ∧ G = g ∧ s9 p0 O = some (e, f)) ?_ ?_
      ·obtain ⟨P, Q, H⟩ := bnd H
       rcases gY P with i | i <;> revert i
       ·intro B
        have H := ift B H
        rcases gY (dcd (p2.value = 0)) with i | i <;> revert i
        ·intro u
         obtain ⟨u, H⟩ := It u H
         rcases gY a.closed with i | i <;> revert i
         ·intro N
          have H := ift N H
          refine fw _ Z (Ic Mb0 (Ic Mb1 In0))<|Jm 0 Z<|JL 1 5 (ff p2) Z (Rb1 Z)<|?_
          refine Ao 2 Z ?_
          refine Ek Tryz.call111 Z (iQ p2 true false P Q _ _ ) ?_
          rintro _ _ _ - ⟨rfl, rfl, rfl⟩
          refine ⟨(Ic Mb0 (Ic Mb1 In0)), ?_⟩
          refine Jm 3 Z<|Aw.known (d := 122) Z (B)<|BF 4 2 Z<|Bl 5 (.int .u64 p2.value) Z (Rb1 Z)<|Bc 6 Z<|Jt 7 Z<|Jm 8 Z<|Aw.known (d := 127) Z (hX u)<|BF 9 2 Z<|Bl 10 (.bool a.closed) Z (Rb0 Z)<|Jt 11 Z<|Jm 12 Z<|Aw.known (d := 131) Z (N)<|BF 13 1 Z<|Bl 14 (sv c) Z (Rb0 Z)<|Bq 15 Z (ge (T := Ty.u64) o Z Z)<|Bc 16 Z<|Jt 17 Z<|Ja 18 Z<|Ja 19 Z<|Ad<|Re0<|?_
          exact Re0<|Sd<|⟨_, by exact R2, (dcd ((a.buffer.length : Int) = 0)), Z, Z, Z, H⟩
         ·intro N
          have H := f0 (btf N) H
          refine fw _ Z (Ic Mb0 (Ic Mb1 In0))<|Jm 0 Z<|JL 1 5 (ff p2) Z (Rb1 Z)<|?_
          refine Ao 2 Z ?_
          refine Ek Tryz.call111 Z (iQ p2 true false P Q _ _ ) ?_
          rintro _ _ _ - ⟨rfl, rfl, rfl⟩
          refine ⟨(Ic Mb0 (Ic Mb1 In0)), ?_⟩
          refine Jm 3 Z<|Aw.known (d := 122) Z (B)<|BF 4 2 Z<|Bl 5 (.int .u64 p2.value) Z (Rb1 Z)<|Bc 6 Z<|Jt 7 Z<|Jm 8 Z<|Aw.known (d := 127) Z (hX u)<|BF 9 2 Z<|Bl 10 (.bool a.closed) Z (Rb0 Z)<|Jt 11 Z<|Jm 12 Z<|Aw.known (d := 131) Z (N)<|Jz 13 Z<|Jz 14 Z<|Jz 15 Z<|Jz 16 Z<|Jf 17 Z<|Ja 18 Z<|Ja 19 Z<|Ad<|Re0<|?_
          exact Re0<|Sd<|⟨_, by exact R2, false, Z, Z, Z, H⟩
        ·intro u
         obtain ⟨u, H⟩ := If u H
         refine fw _ Z (Ic Mb0 (Ic Mb1 In0))<|Jm 0 Z<|JL 1 5 (ff p2) Z (Rb1 Z)<|?_
         refine Ao 2 Z ?_
         refine Ek Tryz.call111 Z (iQ p2 true false P Q _ _ ) ?_
         rintro _ _ _ - ⟨rfl, rfl, rfl⟩
         refine ⟨(Ic Mb0 (Ic Mb1 In0)), ?_⟩
         exact Jm 3 Z<|Aw.known (d := 122) Z (B)<|BF 4 2 Z<|Bl 5 (.int .u64 p2.value) Z (Rb1 Z)<|Bc 6 Z<|Jt 7 Z<|Jm 8 Z<|Aw.known (d := 127) Z (iE u)<|Jz 9 Z<|Jz 10 Z<|Jf 11 Z<|Jm 12 Z<|Jz 13 Z<|Jz 14 Z<|Jz 15 Z<|Jz 16 Z<|Jf 17 Z<|Ja 18 Z<|Ja 19 Z<|Ad<|Re0<|Re0<|Sd ⟨_, by exact R2, false, Z, Z, Z, H⟩
       ·intro B
        have H := f0 (btf B) H
        refine fw _ Z (Ic Mb0 (Ic Mb1 In0))<|Jm 0 Z<|JL 1 5 (ff p2) Z (Rb1 Z)<|?_
        refine Ao 2 Z ?_
        refine Ek Tryz.call111 Z (iQ p2 true false P Q _ _ ) ?_
        rintro _ _ _ - ⟨rfl, rfl, rfl⟩
        refine ⟨(Ic Mb0 (Ic Mb1 In0)), ?_⟩
        exact Jm 3 Z<|Aw.known (d := 122) Z (B)<|Jz 4 Z<|Jz 5 Z<|Jz 6 Z<|Jf 7 Z<|Jm 8 Z<|Jz 9 Z<|Jz 10 Z<|Jf 11 Z<|Jm 12 Z<|Jz 13 Z<|Jz 14 Z<|Jz 15 Z<|Jz 16 Z<|Jf 17 Z<|Ja 18 Z<|Ja 19 Z<|Ad<|Re0<|Re0<|Sd<|⟨_, by exact R2, false, Z, Z, Z, H⟩
      rintro _ _ _ - ⟨O, rfl, rfl, rfl, H⟩
      unfold s9 at H
      refine fx ?_
      obtain ⟨s, t⟩ := ic H
      subst e f
      refine ⟨(.inl Z), [(sv b), (.bool O)], ⟨(sv b), _, Z, Z, ⟨(.bool O), _, Z, Z, Z⟩⟩, ?_⟩
      exact Sd ⟨b, Z, Z, w⟩
     ·intro aa
      have H := f0 (btf aa) H
      refine ft<|fc<|fa<|Ea Z<|Ea Z<|fb<|fx<|?_
      obtain ⟨s, t⟩ := ic H
      subst e f
      refine ⟨(.inl Z), [(sv fB), (.bool false)], ⟨(sv fB), _, Z, Z, ⟨(.bool false), _, Z, Z, Z⟩⟩, ?_⟩
      exact Re0<|Re0<|Sd<|⟨fB, Z, Z, (Slr.nil fH _)⟩
theorem D3 (p0 : ad1) (g : SV) (p1 : Op) (e f : SV) (a : Bool) (H : sd p0 p1 = some a) (K : Kp) (G : List Ent) (u : Slr fH K (sv g) p0) (w : Slr fW K (sv e) p1.cases) (x : Slr Ty.i64 K (sv f) p1.draws) :
  Fc Tryz.prog 113 #[(sv g), (.agg (fj p1 e f).toArray)] K (G) (fun v h b => v = (.bool a) ∧ G = b) := by
 refine fN Tryz.func113 Z Tryz.ntmps113 Tryz.results113 Z ?_
 unfold sd at H
 refine fc<|fa<|?_
 refine fe Z (fU (cs := (fj p1 e f)) Z Z Z (fun E => ?_))
 refine Ea Z<|fb<|fc<|fa<|EL 7 (fj p1 e f) Z (Rb0 Z)<|?_
 obtain ⟨o, A, H⟩ := bnd H
 refine fe Z (Ek Tryz.call44 Z (ln p1 e f o A _ _ w x) ?_)
 rintro _ p _ r ⟨B, rfl, rfl, l⟩
 refine Ea Z<|fb<|?_
 refine fz (fun i h b => [] = i ∧ G = b ∧ wJ = some a) ?_ ?_
 ·refine fc<|fa<|Ea Z<|fb<|fA<|?_
  refine fY (fun n101 i h b => ∃ (d : Int), [(0, (sv g)), (5, (sv B)), (6, (Vi d))] = i ∧ p = h ∧ G = b ∧ lp1 (wK p0 o) n101 d = some a) BIG ?_ ?_
  ·exact Re0<|Sd<|⟨_, by exact R3, 0, Z, Z, Z, H⟩
  rintro n101 _ _ _ - ⟨d, rfl, rfl, rfl, H⟩
  obtain ⟨J, I, rfl, t, H⟩ := lr H
  unfold wK at H
  refine fc<|fc<|fa<|Em Z<|Em Z<|Eq Z (ge (T := fW) l Z Z)<|Ec Z<|fb<|?_
  refine fm Z ?_ ?_
  ·intro c
   obtain ⟨c, H⟩ := It c H
   refine ft<|fc<|fA<|fc<|fa<|Em Z<|Em Z<|Em Z<|?_
   obtain ⟨n, m, H⟩ := bnd H
   obtain ⟨_, rfl, s⟩ := Slr.at l m
   refine Eq Z (Qi (T := fW) l m Z)<|EL 3 (fl n) Z (Rdc.k s Z)<|?_
   obtain ⟨C, z, H⟩ := bnd H
   have y := u.mono r
   refine fe Z (Ek Tryz.call79 Z (AZ p0 g n C z _ _ y) ?_)
   rintro _ _ _ - ⟨rfl, rfl, rfl⟩
   refine fb ?_
   refine fm Z ?_ ?_
   ·intro j
    have H := ift j H
    refine fc<|fa<|Ea Z<|fb<|fx<|?_
    obtain q := gq H
    subst a
    refine ⟨(.inl Z), [(.bool false)], ⟨(.bool false), _, Z, Z, Z⟩, ?_⟩
    exact Sd ⟨Z, Z⟩
   ·intro j
    have H := f0 (btf j) H
    exact ft<|fa<|Em Z<|Er (wI (d + 1)) Z<|Ea Z<|fb<|Sd<|⟨_, by exact R3, _, Nat.lt_succ_self _, (wI (d + 1)), Z, Z, Z, (t ▸ H)⟩
  ·intro c
   obtain ⟨c, H⟩ := If c H
   exact f5<|Sd<|⟨[], trivial, Z, Z, H⟩
 rintro _ D _ F ⟨rfl, rfl, H⟩
 unfold wJ at H
 refine fc<|fa<|Ea Z<|fb<|fx<|?_
 obtain q := gq H
 subst a
 refine ⟨(.inl Z), [(.bool true)], ⟨(.bool true), _, Z, Z, Z⟩, ?_⟩
 exact Sd ⟨Z, Z⟩
theorem En (p0 : ad1) (a : SV) (p1 : Op) (j l : SV) (p2 : Result) (e : ad1) (f : Bool) (H : wL p0 p1 p2 = some (e, f)) (K : Kp) (G : List Ent) (c : Slr fH K (sv a) p0) (aq : Slr fW K (sv j) p1.cases) (ar : Slr Ty.i64 K (sv l) p1.draws) :
  Fc Tryz.prog 85 #[(sv a), (.agg (fj p1 j l).toArray), (.agg (ff p2).toArray)] K (G) (fun v h g => ∃ (aN : SV), v = (.tuple #[(sv aN), (.bool f)]) ∧ G = g ∧ Slr fH h (sv aN) e) := by
 refine fN Tryz.func85 Z Tryz.ntmps85 Tryz.results85 Z ?_
 unfold wL at H
 refine fc<|fa<|?_
 refine fe Z (fU (cs := (fj p1 j l)) Z Z Z (fun s => ?_))
 refine fe Z (fU (cs := (ff p2)) Z Z Z (fun D => ?_))
 refine Ea Z<|Ea Z<|fb<|?_
 refine fz (fun i h g => ∃ (ab : Bool), [(0, (sv a)), (4, (Vp s)), (5, (Vp D)), (8, (.bool ab))] = i ∧ K = h ∧ (.blk D 38 (ff p2)) :: (.blk s 51 (fj p1 j l)) :: G = g ∧ tj p0 p2 p1 ab = some (e, f)) ?_ ?_
 ·refine fa<|EF 0 Z<|El (Vi p1.kind) Z (Rb1 Z)<|Ec Z<|Em Z<|?_
  refine Ee Z ?_ ?_
  ·intro F
   obtain ⟨F, H⟩ := It F H
   exact Ez Z<|Ez Z<|Ez Z<|Et Z<|Em Z<|Ez Z<|Ez Z<|Ez Z<|Et Z<|Ea Z<|fb<|Pu1<|Pu1<|Sd<|⟨_, by exact R4, true, Z, Z, Z, H⟩
  ·intro F
   obtain ⟨F, H⟩ := If F H
   refine VF 0 Z<|Vl (Vi p1.kind) Z (Rb1 Z)<|Vc Z<|Ef Z<|Em Z<|?_
   refine Ee Z ?_ ?_
   ·intro I
    obtain ⟨I, H⟩ := It I H
    exact Ez Z<|Ez Z<|Ez Z<|Et Z<|Ea Z<|fb<|Pu1<|Pu1<|Sd<|⟨_, by exact R4, true, Z, Z, Z, H⟩
   ·intro I
    obtain ⟨I, H⟩ := If I H
    exact VF 0 Z<|Vl (Vi p1.kind) Z (Rb1 Z)<|Vc Z<|Ef Z<|Ea Z<|fb<|Pu1<|Pu1<|Sd<|⟨_, by exact R4, (dcd (p1.kind = 4)), Z, Z, Z, H⟩
 rintro _ _ _ - ⟨ab, rfl, rfl, rfl, H⟩
 unfold tj at H
 refine fc<|fc<|fa<|EF 0 Z<|El (Vi p2.kind) Z (Rb0 Z)<|fb<|fA<|?_
 refine fz (fun i h g => ∃ (av : Bool), [(0, (sv a)), (4, (Vp s)), (5, (Vp D)), (8, (.bool ab)), (29, (Vi p2.kind)), (30, (.bool av))] = i ∧ K = h ∧ (.blk D 38 (ff p2)) :: (.blk s 51 (fj p1 j l)) :: G = g ∧ oW p0 ab p2 p1 av = some (e, f)) ?_ ?_
 ·refine fc<|fa<|Ec Z<|Ea Z<|fb<|?_
  refine fm Z ?_ ?_
  ·intro J
   obtain ⟨J, H⟩ := It J H
   exact ft<|Pu1<|Pu1<|Sd<|⟨_, by exact R6, (dcd (p2.kind = 1)), Z, Z, Z, H⟩
  ·intro J
   obtain ⟨J, H⟩ := If J H
   exact fa<|Ec Z<|Ea Z<|fb<|Pu1<|Pu1<|Sd<|⟨_, by exact R6, (dcd (p2.kind = 2)), Z, Z, Z, H⟩
 rintro _ _ _ - ⟨av, rfl, rfl, rfl, H⟩
 unfold oW at H
 refine fm Z ?_ ?_
 ·intro ak
  have H := ift ak H
  refine fc<|fa<|EL 7 (fj p1 j l) Z (Rb1 Z)<|EL 5 (ff p2) Z (Rb0 Z)<|?_
  obtain ⟨ah, bn, bb, H⟩ := iw H
  refine fe Z (Ek Tryz.call109 Z (qx p1 j l p2 ah bn bb _ _ aq ar) ?_)
  rintro _ _ _ - ⟨rfl, rfl, rfl⟩
  refine Em Z<|Ex Z<|Ex Z<|?_
  refine fe Z (fD (cs := (fl (Case.mk false 0 0))) Z Z Z Z (fun bD => ?_))
  refine fe Z (Sa (fl ah) Z .here Z ?_)
  refine Ea Z<|fb<|fc<|fc<|fa<|Em Z<|Eq Z (gf Z)<|fb<|?_
  refine fm Z ?_ ?_
  ·intro x
   have x := iv x
   have H := f0 (btf x) H
   refine fc<|fa<|Ea Z<|Ea Z<|fb<|fx<|?_
   obtain ⟨n, o⟩ := ic H
   subst e f
   refine ⟨(.inl Z), [(sv fB), (.bool false)], ⟨(sv fB), _, Z, Z, ⟨(.bool false), _, Z, Z, Z⟩⟩, ?_⟩
   exact Re0<|Re0<|Re0<|Sd<|⟨fB, Z, Z, (Slr.nil fH _)⟩
  ·intro x
   have x := ir x
   have H := ift x H
   refine ft<|fc<|fa<|Em Z<|EL 3 (fl ah) Z (Rb0 Z)<|EL 5 (ff p2) Z (Rb1 Z)<|?_
   obtain ⟨bo, aA, bc, H⟩ := iw H
   refine fe Z (Ek Tryz.call110 Z (Bj p0 a ah p2 bo aA bc _ _ c) ?_)
   rintro _ bx _ bG ⟨ax, rfl, rfl, a4⟩
   refine Ex Z<|Ex Z<|Ea Z<|Ea Z<|fb<|fx<|?_
   obtain ⟨n, o⟩ := ic H
   subst e f
   refine ⟨(.inl Z), [(sv ax), (.bool aA)], ⟨(sv ax), _, Z, Z, ⟨(.bool aA), _, Z, Z, Z⟩⟩, ?_⟩
   exact Re0<|Re0<|Re0<|Sd<|⟨ax, Z, Z, a4⟩
 ·intro ak
  have H := f0 (btf ak) H
  refine fc<|fa<|Ec Z<|Ea Z<|fb<|?_
  refine fm Z ?_ ?_
  ·intro L
   obtain ⟨L, H⟩ := It L H
   refine fc<|fc<|fa<|EF 0 Z<|El (Vi p1.kind) Z (Rb1 Z)<|Ec Z<|fb<|?_
   refine fm Z ?_ ?_
   ·intro M
    obtain ⟨M, H⟩ := It M H
    refine fz (fun i h g => ∃ (ac : Bool), [(6, (sv a)), (7, (.bool ac))] = i ∧ K = h ∧ G = g ∧ tf p0 ac = some (e, f)) ?_ ?_
    ·rcases gY (dcd (p2.case_ = (-1))) with b | b <;> revert b
     ·intro p
      obtain ⟨p, H⟩ := It p H
      obtain ⟨ai, au, H⟩ := bnd H
      rcases gY ai with b | b <;> revert b
      ·intro E
       have H := ift E H
       obtain ⟨aB, aF, H⟩ := bnd H
       rcases gY (!(aB)) with b | b <;> revert b
       ·intro q
        have q := iv q
        have H := f0 (btf q) H
        refine fw _ Z (Ic Mb0 (Ic Mb1 In0))<|Jm 0 Z<|JF 1 1 Z<|Jl 2 (Vi p2.case_) Z (Rb0 Z)<|Jc 3 Z<|Jm 4 Z<|Aw.known (d := 56) Z (hX p)<|BL 5 5 (ff p2) Z (Rb0 Z)<|?_
        refine gB 6 (by kernel_rfl) (kr Z Z Z Z Z ?_)
        refine Ek Tryz.call111 Z (iQ p2 false false ai au _ _ ) ?_
        rintro _ _ _ - ⟨rfl, rfl, rfl⟩
        refine ⟨(Ic Mb0 (Ic Mb1 In0)), ?_⟩
        refine Jt 7 Z<|Jm 8 Z<|Aw.known (d := 60) Z (E)<|Bm 9 Z<|BF 10 2 Z<|Bl 11 (Vi p1.channel) Z (Rb1 Z)<|?_
        refine gB 12 (by kernel_rfl) (kr Z Z Z Z Z ?_)
        refine Ek Tryz.call107 Z (lJ p0 a p1.channel aB aF _ _ c) ?_
        rintro _ _ _ - ⟨rfl, rfl, rfl⟩
        refine ⟨(Ic Mb0 (Ic Mb1 In0)), ?_⟩
        exact Bq 13 Z (gf Z)<|Bm 14 Z<|Aw.known (d := 66) Z (lB (q))<|Jz 15 Z<|Jz 16 Z<|Jz 17 Z<|Jz 18 Z<|Jz 19 Z<|Jz 20 Z<|Bt 21 Z<|Jt 22 Z<|Ja 23 Z<|Ja 24 Z<|Ad<|Re0<|Re0<|Sd<|⟨_, by exact R2, true, Z, Z, Z, H⟩
       ·intro q
        have q := ir q
        have H := ift q H
        obtain ⟨aO, aG, H⟩ := bnd H
        refine fw _ Z (Ic Mb0 (Ic Mb1 In0))<|Jm 0 Z<|JF 1 1 Z<|Jl 2 (Vi p2.case_) Z (Rb0 Z)<|Jc 3 Z<|Jm 4 Z<|Aw.known (d := 56) Z (hX p)<|BL 5 5 (ff p2) Z (Rb0 Z)<|?_
        refine gB 6 (by kernel_rfl) (kr Z Z Z Z Z ?_)
        refine Ek Tryz.call111 Z (iQ p2 false false ai au _ _ ) ?_
        rintro _ _ _ - ⟨rfl, rfl, rfl⟩
        refine ⟨(Ic Mb0 (Ic Mb1 In0)), ?_⟩
        refine Jt 7 Z<|Jm 8 Z<|Aw.known (d := 60) Z (E)<|Bm 9 Z<|BF 10 2 Z<|Bl 11 (Vi p1.channel) Z (Rb1 Z)<|?_
        refine gB 12 (by kernel_rfl) (kr Z Z Z Z Z ?_)
        refine Ek Tryz.call107 Z (lJ p0 a p1.channel aB aF _ _ c) ?_
        rintro _ _ _ - ⟨rfl, rfl, rfl⟩
        refine ⟨(Ic Mb0 (Ic Mb1 In0)), ?_⟩
        refine Bq 13 Z (gf Z)<|Bm 14 Z<|Aw.known (d := 66) Z (lA (q))<|Bm 15 Z<|BF 16 2 Z<|Bl 17 (Vi p1.channel) Z (Rb1 Z)<|?_
        obtain ⟨bN, aZ, aU⟩ := Slr.at c aG
        obtain ⟨bT, rfl, bK⟩ := aZ
        exact Bq 18 Z (Qi (T := fH) c aG Z)<|BF 19 2 Z<|Bl 20 (.bool aO.closed) Z (Rdc.k aU Z)<|Bf 21 Z<|Jt 22 Z<|Ja 23 Z<|Ja 24 Z<|Ad<|Re0<|Re0<|Sd<|⟨_, by exact R2, aO.closed, Z, Z, Z, H⟩
      ·intro E
       have H := f0 (btf E) H
       refine fw _ Z (Ic Mb0 (Ic Mb1 In0))<|Jm 0 Z<|JF 1 1 Z<|Jl 2 (Vi p2.case_) Z (Rb0 Z)<|Jc 3 Z<|Jm 4 Z<|Aw.known (d := 56) Z (hX p)<|BL 5 5 (ff p2) Z (Rb0 Z)<|?_
       refine gB 6 (by kernel_rfl) (kr Z Z Z Z Z ?_)
       refine Ek Tryz.call111 Z (iQ p2 false false ai au _ _ ) ?_
       rintro _ _ _ - ⟨rfl, rfl, rfl⟩
       refine ⟨(Ic Mb0 (Ic Mb1 In0)), ?_⟩
       exact Jt 7 Z<|Jm 8 Z<|Aw.known (d := 60) Z (E)<|Jz 9 Z<|Jz 10 Z<|Jz 11 Z<|Jz 12 Z<|Jz 13 Z<|Jz 14 Z<|gK 15 Z (by kernel_rfl) (by kernel_rfl) (by kernel_rfl) Z Z Z Z rfl<|gK 16 Z (by kernel_rfl) (by kernel_rfl) (by kernel_rfl) Z Z Z Z rfl<|gK 17 Z (by kernel_rfl) (by kernel_rfl) (by kernel_rfl) Z Z Z Z rfl<|gK 18 Z (by kernel_rfl) (by kernel_rfl) (by kernel_rfl) Z Z Z Z rfl<|gK 19 Z (by kernel_rfl) (by kernel_rfl) (by kernel_rfl) Z Z Z Z rfl<|gK 20 Z (by kernel_rfl) (by kernel_rfl) (by kernel_rfl) Z Z Z Z rfl<|Jz 21 Z<|Jf 22 Z<|Ja 23 Z<|Ja 24 Z<|Ad<|Re0<|Re0<|Sd ⟨_, by exact R2, false, Z, Z, Z, H⟩
     ·intro p
      obtain ⟨p, H⟩ := If p H
      refine fw _ Z (Ic Mb0 (Ic Mb1 In0))<|Jm 0 Z<|JF 1 1 Z<|Jl 2 (Vi p2.case_) Z (Rb0 Z)<|Jc 3 Z<|Jm 4 Z<|Aw.known (d := 56) Z (iE p)<|Jz 5 Z<|Jz 6 Z<|Jf 7 Z<|Jm 8 Z<|Jz 9 Z<|Jz 10 Z<|Jz 11 Z<|Jz 12 Z<|Jz 13 Z<|Jz 14 Z<|gK 15 Z (by kernel_rfl) (by kernel_rfl) (by kernel_rfl) Z Z Z Z rfl<|gK 16 Z (by kernel_rfl) (by kernel_rfl) (by kernel_rfl) Z Z Z Z rfl<|gK 17 Z (by kernel_rfl) (by kernel_rfl) (by kernel_rfl) Z Z Z Z rfl<|gK 18 Z (by kernel_rfl) (by kernel_rfl) (by kernel_rfl) Z Z Z Z rfl<|gK 19 Z (by kernel_rfl) (by kernel_rfl) (by kernel_rfl) Z Z Z Z rfl<|?_
      exact gK 20 Z (by kernel_rfl) (by kernel_rfl) (by kernel_rfl) Z Z Z Z rfl<|Jz 21 Z<|Jf 22 Z<|Ja 23 Z<|Ja 24 Z<|Ad<|Re0<|Re0<|Sd<|⟨_, by exact R2, false, Z, Z, Z, H⟩
    rintro _ _ _ - ⟨ac, rfl, rfl, rfl, H⟩
    unfold tf at H
    refine fx ?_
    obtain ⟨n, o⟩ := ic H
    subst e f
    refine ⟨(.inl Z), [(sv a), (.bool ac)], ⟨(sv a), _, Z, Z, ⟨(.bool ac), _, Z, Z, Z⟩⟩, ?_⟩
    exact Sd ⟨a, Z, Z, c⟩
   ·intro M
    obtain ⟨M, H⟩ := If M H
    refine ft<|fc<|fa<|EL 7 (fj p1 j l) Z (Rb1 Z)<|EL 5 (ff p2) Z (Rb0 Z)<|?_
    obtain ⟨aj, bp, bd, H⟩ := iw H
    refine fe Z (Ek Tryz.call109 Z (qx p1 j l p2 aj bp bd _ _ aq ar) ?_)
    rintro _ _ _ - ⟨rfl, rfl, rfl⟩
    refine Em Z<|Ex Z<|Ex Z<|?_
    refine fe Z (fD (cs := (fl (Case.mk false 0 0))) Z Z Z Z (fun bE => ?_))
    refine fe Z (Sa (fl aj) Z .here Z ?_)
    refine Ea Z<|fb<|fc<|fc<|fa<|Em Z<|Eq Z (gf Z)<|fb<|?_
    refine fm Z ?_ ?_
    ·intro y
     have y := iv y
     have H := f0 (btf y) H
     refine fc<|fa<|Ea Z<|Ea Z<|fb<|fx<|?_
     obtain ⟨n, o⟩ := ic H
     subst e f
     refine ⟨(.inl Z), [(sv fB), (.bool false)], ⟨(sv fB), _, Z, Z, ⟨(.bool false), _, Z, Z, Z⟩⟩, ?_⟩
     exact Re0<|Re0<|Re0<|Sd<|⟨fB, Z, Z, (Slr.nil fH _)⟩
    ·intro y
     have y := ir y
     have H := ift y H
     refine ft<|fc<|fa<|Em Z<|EL 3 (fl aj) Z (Rb0 Z)<|EL 5 (ff p2) Z (Rb1 Z)<|?_
     obtain ⟨bq, aC, be, H⟩ := iw H
     refine fe Z (Ek Tryz.call110 Z (Bj p0 a aj p2 bq aC be _ _ c) ?_)
     rintro _ bz _ bH ⟨ay, rfl, rfl, a5⟩
     refine Ex Z<|Ex Z<|Ea Z<|Ea Z<|fb<|fx<|?_
     obtain ⟨n, o⟩ := ic H
     subst e f
     refine ⟨(.inl Z), [(sv ay), (.bool aC)], ⟨(sv ay), _, Z, Z, ⟨(.bool aC), _, Z, Z, Z⟩⟩, ?_⟩
     exact Re0<|Re0<|Re0<|Sd<|⟨ay, Z, Z, a5⟩
  ·intro L
   obtain ⟨L, H⟩ := If L H
   refine fc<|fa<|Ec Z<|Ea Z<|fb<|?_
   refine fm Z ?_ ?_
   ·intro N
    obtain ⟨N, H⟩ := It N H
    refine fc ?_
    refine fz (fun i h g => ∃ (aw : Bool), [(0, (sv a)), (4, (Vp s)), (118, (.bool aw))] = i ∧ K = h ∧ (.blk s 51 (fj p1 j l)) :: G = g ∧ pR p0 p1 aw = some (e, f)) ?_ ?_
    ·refine fa<|EF 0 Z<|El (Vi p1.kind) Z (Rb1 Z)<|Ec Z<|Em Z<|?_
     refine Ee Z ?_ ?_
     ·intro z
      have z := kT (iv (z))
      have H := f0 z H
      refine Ez Z<|Ez Z<|Ez Z<|Et Z<|Em Z<|Ez Z<|Ez Z<|Ez Z<|Et Z<|Em Z<|Ez Z<|Ez Z<|Ez Z<|Ez Z<|Ez Z<|Et Z<|Em Z<|Ez Z<|Ez Z<|Ez Z<|Ez Z<|Ez Z<|?_
      exact Ez Z<|Et Z<|fb<|Pu1<|Re1<|Sd<|⟨_, by exact R3, true, Z, Z, Z, H⟩
     ·intro z
      have z := kU (ir (z))
      have H := ift z H
      refine VF 1 Z<|Vl (Vi p2.case_) Z (Rb0 Z)<|Vc Z<|Ef Z<|Em Z<|?_
      refine Ee Z ?_ ?_
      ·intro A
       have A := kT (iv (A))
       have H := f0 A H
       exact Ez Z<|Ez Z<|Ez Z<|Et Z<|Em Z<|Ez Z<|Ez Z<|Ez Z<|Ez Z<|Ez Z<|Et Z<|Em Z<|Ez Z<|Ez Z<|Ez Z<|Ez Z<|Ez Z<|Ez Z<|Et Z<|fb<|Pu1<|Re1<|Sd ⟨_, by exact R3, true, Z, Z, Z, H⟩
      ·intro A
       have A := kU (ir (A))
       have H := ift A H
       refine VL 5 (ff p2) Z (Rb0 Z) ?_
       obtain ⟨br, bf, H⟩ := bnd H
       refine hQ Z Z Z Z (Ek Tryz.call111 Z (iQ p2 false false br bf _ _ ) ?_)
       rintro _ _ _ - ⟨rfl, rfl, rfl⟩
       refine Vq Z (gf Z)<|Ef Z<|Em Z<|?_
       refine Ee Z ?_ ?_
       ·intro B
        have B := iv B
        have H := f0 (btf B) H
        exact Ez Z<|Ez Z<|Ez Z<|Ez Z<|Ez Z<|Et Z<|Em Z<|Ez Z<|Ez Z<|Ez Z<|Ez Z<|Ez Z<|Ez Z<|Et Z<|fb<|Pu1<|Re1<|Sd<|⟨_, by exact R3, true, Z, Z, Z, H⟩
       ·intro B
        have B := ir B
        have H := ift B H
        refine Vm Z<|VF 2 Z<|Vl (Vi p1.channel) Z (Rb1 Z)<|?_
        obtain ⟨bs, bg, H⟩ := bnd H
        refine hQ Z Z Z Z (Ek Tryz.call107 Z (lJ p0 a p1.channel bs bg _ _ c) ?_)
        rintro _ _ _ - ⟨rfl, rfl, rfl⟩
        refine Vq Z (gf Z)<|Ef Z<|Em Z<|?_
        refine Ee Z ?_ ?_
        ·intro C
         have C := iv C
         have H := f0 (btf C) H
         exact Ez Z<|Ez Z<|Ez Z<|Ez Z<|Ez Z<|Ez Z<|Et Z<|fb<|Pu1<|Re1<|Sd<|⟨_, by exact R3, true, Z, Z, Z, H⟩
        ·intro C
         have C := ir C
         have H := ift C H
         refine Vm Z<|VF 2 Z<|Vl (Vi p1.channel) Z (Rb1 Z)<|?_
         obtain ⟨aP, aH, H⟩ := bnd H
         obtain ⟨bO, a0, aV⟩ := Slr.at c aH
         obtain ⟨bU, rfl, bL⟩ := a0
         exact Vq Z (Qi (T := fH) c aH Z)<|VF 2 Z<|Vl (.bool aP.closed) Z (Rdc.k aV Z)<|Ef Z<|fb<|Pu1<|Re1<|Sd<|⟨_, by exact R3, aP.closed, Z, Z, Z, H⟩
    rintro _ _ _ - ⟨aw, rfl, rfl, rfl, H⟩
    unfold pR at H
    refine fm Z ?_ ?_
    ·intro al
     have H := ift al H
     refine fc<|fa<|Ea Z<|Ea Z<|fb<|fx<|?_
     obtain ⟨n, o⟩ := ic H
     subst e f
     refine ⟨(.inl Z), [(sv fB), (.bool false)], ⟨(sv fB), _, Z, Z, ⟨(.bool false), _, Z, Z, Z⟩⟩, ?_⟩
     exact Re0<|Sd<|⟨fB, Z, Z, (Slr.nil fH _)⟩
    ·intro al
     have H := f0 (btf al) H
     refine ft<|fc<|fa<|Em Z<|EF 2 Z<|El (Vi p1.channel) Z (Rb0 Z)<|?_
     obtain ⟨w, aI, H⟩ := bnd H
     obtain ⟨bP, a1, aW⟩ := Slr.at c aI
     obtain ⟨ag, rfl, a6⟩ := a1
     refine Eq Z (Qi (T := fH) c aI Z)<|EL 3 (fy w ag) Z (Rdc.k aW Z)<|?_
     refine fe Z (fD (cs := (fy (fL.mk 0 [] false) fB)) Z Z Z Z (fun bF => ?_))
     refine fe Z (Sa (fy w ag) Z .here Z ?_)
     refine fb<|fc<|fa<|EF 2 Z<|?_
     refine fe Z (So [(.bool true)] (fy (fL.mk w.capacity w.buffer true) ag) Z .here Z ?_)
     refine fb<|fc<|fa<|Em Z<|EF 2 Z<|El (Vi p1.channel) Z (Rb1 Z)<|EL 3 (fy (fL.mk w.capacity w.buffer true) ag) Z (Rb0 Z)<|?_
     obtain ⟨bt, bh, H⟩ := bnd H
     refine fe Z (Ek Tryz.call112 Z (xM p0 a p1.channel (fL.mk w.capacity w.buffer true) ag bt bh _ _ c a6) ?_)
     rintro _ _ _ - ⟨az, bS, rfl, rfl, rfl, a7⟩
     refine Ea Z<|Ea Z<|fb<|fx<|?_
     obtain ⟨n, o⟩ := ic H
     subst e f
     refine ⟨(.inl Z), [(sv az), (.bool true)], ⟨(sv az), _, Z, Z, ⟨(.bool true), _, Z, Z, Z⟩⟩, ?_⟩
     refine Shift.settle (T := fH) .here a7 Z ?_
     intro bA bI a8
     exact Re0<|Re0<|Re0<|Sd<|⟨az, Z, Z, a8⟩
   ·intro N
    obtain ⟨N, H⟩ := If N H
    refine fc<|fa<|Ec Z<|Ea Z<|fb<|?_
    refine fm Z ?_ ?_
    ·intro O
     obtain ⟨O, H⟩ := It O H
     refine fz (fun i h g => ∃ (ad : Bool), [(6, (sv a)), (7, (.bool ad))] = i ∧ G = g ∧ pS p0 ad = some (e, f)) ?_ ?_
     ·refine fa<|Em Z<|Em Z<|Em Z<|?_
      refine Ee Z ?_ ?_
      ·intro am
       have H := ift am H
       refine VF 1 Z<|Vl (Vi p1.mode) Z (Rb1 Z)<|Vc Z<|Et Z<|Em Z<|?_
       refine Ee Z ?_ ?_
       ·intro P
        obtain ⟨P, H⟩ := It P H
        refine VF 1 Z<|Vl (Vi p2.case_) Z (Rb0 Z)<|Vc Z<|Et Z<|Em Z<|?_
        refine Ee Z ?_ ?_
        ·intro Q
         obtain ⟨Q, H⟩ := It Q H
         refine VL 5 (ff p2) Z (Rb0 Z) ?_
         obtain ⟨bu, bi, H⟩ := bnd H
         refine hQ Z Z Z Z (Ek Tryz.call111 Z (iQ p2 false false bu bi _ _ ) ?_)
         rintro _ _ _ - ⟨rfl, rfl, rfl⟩
         refine Et Z<|Em Z<|?_
         refine Ee Z ?_ ?_
         ·intro an
          have H := ift an H
          refine Vm Z<|VL 7 (fj p1 j l) Z (Rb1 Z)<|?_
          obtain ⟨aQ, bj, H⟩ := bnd H
          refine hQ Z Z Z Z (Ek Tryz.call113 Z (D3 p0 a p1 j l aQ bj _ _ c aq ar) ?_)
          rintro _ bB _ bJ ⟨rfl, rfl⟩
          exact Et Z<|Ea Z<|Ea Z<|fb<|Re0<|Re0<|Sd<|⟨_, by exact R2, aQ, Z, Z, H⟩
         ·intro an
          have H := f0 (btf an) H
          exact Ez Z<|Ez Z<|Ez Z<|Ef Z<|Ea Z<|Ea Z<|fb<|Re0<|Re0<|Sd<|⟨_, by exact R2, false, Z, Z, H⟩
        ·intro Q
         obtain ⟨Q, H⟩ := If Q H
         exact Ez Z<|Ez Z<|Ef Z<|Em Z<|Ez Z<|Ez Z<|Ez Z<|Ef Z<|Ea Z<|Ea Z<|fb<|Re0<|Re0<|Sd<|⟨_, by exact R2, false, Z, Z, H⟩
       ·intro P
        obtain ⟨P, H⟩ := If P H
        exact Ez Z<|Ez Z<|Ez Z<|Ef Z<|Em Z<|Ez Z<|Ez Z<|Ef Z<|Em Z<|Ez Z<|Ez Z<|Ez Z<|Ef Z<|Ea Z<|Ea Z<|fb<|Re0<|Re0<|Sd<|⟨_, by exact R2, false, Z, Z, H⟩
      ·intro am
       have H := f0 (btf am) H
       refine Ez Z<|Ez Z<|Ez Z<|Ef Z<|Em Z<|Ez Z<|Ez Z<|Ez Z<|Ef Z<|Em Z<|Ez Z<|Ez Z<|Ef Z<|Em Z<|Ez Z<|Ez Z<|Ez Z<|Ef Z<|Ea Z<|Ea Z<|fb<|Re0<|?_
       exact Re0<|Sd<|⟨_, by exact R2, false, Z, Z, H⟩
     rintro _ bC _ aT ⟨ad, rfl, rfl, H⟩
     unfold pS at H
     refine fx ?_
     obtain ⟨n, o⟩ := ic H
     subst e f
     refine ⟨(.inl Z), [(sv a), (.bool ad)], ⟨(sv a), _, Z, Z, ⟨(.bool ad), _, Z, Z, Z⟩⟩, ?_⟩
     have a9 := c.mono aT
     exact Sd ⟨a, Z, Z, a9⟩
    ·intro O
     obtain ⟨O, H⟩ := If O H
     refine fc<|fa<|Ec Z<|Ea Z<|fb<|?_
     refine fm Z ?_ ?_
     ·intro R
      obtain ⟨R, H⟩ := It R H
      refine fz (fun i h g => ∃ (ae : Bool), [(6, (sv a)), (7, (.bool ae))] = i ∧ K = h ∧ G = g ∧ tg p0 ae = some (e, f)) ?_ ?_
      ·refine fa<|Em Z<|Em Z<|Em Z<|?_
       refine Ee Z ?_ ?_
       ·intro ao
        have H := ift ao H
        refine VF 1 Z<|Vl (Vi p1.mode) Z (Rb1 Z)<|Vc Z<|Et Z<|Em Z<|?_
        refine Ee Z ?_ ?_
        ·intro S
         obtain ⟨S, H⟩ := It S H
         refine VF 1 Z<|Vl (Vi p2.case_) Z (Rb0 Z)<|Vc Z<|Et Z<|Em Z<|?_
         refine Ee Z ?_ ?_
         ·intro U
          obtain ⟨U, H⟩ := It U H
          refine VL 5 (ff p2) Z (Rb0 Z) ?_
          obtain ⟨aR, bk, H⟩ := bnd H
          refine hQ Z Z Z Z (Ek Tryz.call111 Z (iQ p2 false false aR bk _ _ ) ?_)
          rintro _ _ _ - ⟨rfl, rfl, rfl⟩
          exact Et Z<|Ea Z<|Ea Z<|fb<|Re0<|Re0<|Sd<|⟨_, by exact R2, aR, Z, Z, Z, H⟩
         ·intro U
          obtain ⟨U, H⟩ := If U H
          exact Ez Z<|Ez Z<|Ef Z<|Ea Z<|Ea Z<|fb<|Re0<|Re0<|Sd<|⟨_, by exact R2, false, Z, Z, Z, H⟩
        ·intro S
         obtain ⟨S, H⟩ := If S H
         exact Ez Z<|Ez Z<|Ez Z<|Ef Z<|Em Z<|Ez Z<|Ez Z<|Ef Z<|Ea Z<|Ea Z<|fb<|Re0<|Re0<|Sd<|⟨_, by exact R2, false, Z, Z, Z, H⟩
       ·intro ao
        have H := f0 (btf ao) H
        exact Ez Z<|Ez Z<|Ez Z<|Ef Z<|Em Z<|Ez Z<|Ez Z<|Ez Z<|Ef Z<|Em Z<|Ez Z<|Ez Z<|Ef Z<|Ea Z<|Ea Z<|fb<|Re0<|Re0<|Sd<|⟨_, by exact R2, false, Z, Z, Z, H⟩
      rintro _ _ _ - ⟨ae, rfl, rfl, rfl, H⟩
      unfold tg at H
      refine fx ?_
      obtain ⟨n, o⟩ := ic H
      subst e f
      refine ⟨(.inl Z), [(sv a), (.bool ae)], ⟨(sv a), _, Z, Z, ⟨(.bool ae), _, Z, Z, Z⟩⟩, ?_⟩
      exact Sd ⟨a, Z, Z, c⟩
     ·intro R
      obtain ⟨R, H⟩ := If R H
      refine fc<|fa<|Ec Z<|Ea Z<|fb<|?_
      refine fm Z ?_ ?_
      ·intro V
       obtain ⟨V, H⟩ := It V H
       refine fc<|fa<|Ea Z<|fb<|?_
       refine fz (fun i h g => ∃ (aa : Int), [(0, (sv a)), (4, (Vp s)), (5, (Vp D)), (14, (Vi aa))] = i ∧ K = h ∧ (.blk D 38 (ff p2)) :: (.blk s 51 (fj p1 j l)) :: G = g ∧ oV p0 p2 p1 aa = some (e, f)) ?_ ?_
       ·refine fc<|fa<|Em Z<|EF 2 Z<|El (Vi p1.channel) Z (Rb1 Z)<|?_
        obtain ⟨bv, bl, H⟩ := bnd H
        refine fe Z (Ek Tryz.call107 Z (lJ p0 a p1.channel bv bl _ _ c) ?_)
        rintro _ _ _ - ⟨rfl, rfl, rfl⟩
        refine fb ?_
        refine fm Z ?_ ?_
        ·intro ap
         have H := ift ap H
         refine fc<|fa<|Em Z<|EF 2 Z<|El (Vi p1.channel) Z (Rb1 Z)<|?_
         obtain ⟨bw, aJ, H⟩ := bnd H
         obtain ⟨bQ, a2, aX⟩ := Slr.at c aJ
         obtain ⟨bm, rfl, ba⟩ := a2
         refine Eq Z (Qi (T := fH) c aJ Z)<|EF 1 Z<|El (sv bm) Z (Rdc.k aX Z)<|Eq Z (ge (T := Ty.u64) ba Z Z)<|Ea Z<|fb<|fc<|fa<|EF 0 Z<|El (Vi p1.kind) Z (Rb1 Z)<|Ec Z<|fb<|?_
         refine fm Z ?_ ?_
         ·intro W
          obtain ⟨W, H⟩ := It W H
          refine fa<|Em Z<|EF 2 Z<|El (Vi p1.channel) Z (Rb1 Z)<|?_
          obtain ⟨aS, aK, H⟩ := bnd H
          obtain ⟨bR, a3, aY⟩ := Slr.at c aK
          obtain ⟨bV, rfl, bM⟩ := a3
          exact Eq Z (Qi (T := fH) c aK Z)<|EF 0 Z<|El (Vi aS.capacity) Z (Rdc.k aY Z)<|Ea Z<|fb<|Pu1<|Pu1<|Sd<|⟨_, by exact R4, aS.capacity, Z, Z, Z, H⟩
         ·intro W
          obtain ⟨W, H⟩ := If W H
          exact ft<|Pu1<|Pu1<|Sd<|⟨_, by exact R4, (bw.buffer.length : Int), Z, Z, Z, H⟩
        ·intro ap
         have H := f0 (btf ap) H
         exact ft<|Pu1<|Pu1<|Sd<|⟨_, by exact R4, 0, Z, Z, Z, H⟩
       rintro _ _ _ - ⟨aa, rfl, rfl, rfl, H⟩
       unfold oV at H
       refine fz (fun i h g => ∃ (af : Bool), [(6, (sv a)), (7, (.bool af))] = i ∧ K = h ∧ G = g ∧ mA p0 af = some (e, f)) ?_ ?_
       ·rcases gY (dcd (p1.kind = 5)) with b | b <;> revert b
        ·intro m
         obtain ⟨m, H⟩ := It m H
         rcases gY (dcd (p2.case_ = (-1))) with b | b <;> revert b
         ·intro t
          obtain ⟨t, H⟩ := It t H
          obtain ⟨aD, aL, H⟩ := bnd H
          rcases gY aD with b | b <;> revert b
          ·intro X
           have H := ift X H
           refine fw _ Z (Ic Mb0 (Ic Mb1 In0))<|Jm 0 Z<|JF 1 0 Z<|Jl 2 (Vi p1.kind) Z (Rb1 Z)<|Jc 3 Z<|Jm 4 Z<|Aw.known (d := 197) Z (hX m)<|Jz 5 Z<|Jz 6 Z<|Jz 7 Z<|Jt 8 Z<|Jm 9 Z<|BF 10 1 Z<|Bl 11 (Vi p2.case_) Z (Rb0 Z)<|Bc 12 Z<|Jt 13 Z<|Jm 14 Z<|Aw.known (d := 207) Z (hX t)<|BL 15 5 (ff p2) Z (Rb0 Z)<|?_
           refine gB 16 (by kernel_rfl) (kr Z Z Z Z Z ?_)
           refine Ek Tryz.call111 Z (iQ p2 false true aD aL _ _ ) ?_
           rintro _ _ _ - ⟨rfl, rfl, rfl⟩
           refine ⟨(Ic Mb0 (Ic Mb1 In0)), ?_⟩
           exact Jt 17 Z<|Jm 18 Z<|Aw.known (d := 211) Z (X)<|BF 19 4 Z<|Bl 20 (Vi p2.number) Z (Rb0 Z)<|Bm 21 Z<|Bc 22 Z<|Jt 23 Z<|Ja 24 Z<|Ja 25 Z<|Ad<|Re0<|Re0<|Sd<|⟨_, by exact R2, (dcd (p2.number = aa)), Z, Z, Z, H⟩
          ·intro X
           have H := f0 (btf X) H
           refine fw _ Z (Ic Mb0 (Ic Mb1 In0))<|Jm 0 Z<|JF 1 0 Z<|Jl 2 (Vi p1.kind) Z (Rb1 Z)<|Jc 3 Z<|Jm 4 Z<|Aw.known (d := 197) Z (hX m)<|Jz 5 Z<|Jz 6 Z<|Jz 7 Z<|Jt 8 Z<|Jm 9 Z<|BF 10 1 Z<|Bl 11 (Vi p2.case_) Z (Rb0 Z)<|Bc 12 Z<|Jt 13 Z<|Jm 14 Z<|Aw.known (d := 207) Z (hX t)<|BL 15 5 (ff p2) Z (Rb0 Z)<|?_
           refine gB 16 (by kernel_rfl) (kr Z Z Z Z Z ?_)
           refine Ek Tryz.call111 Z (iQ p2 false true aD aL _ _ ) ?_
           rintro _ _ _ - ⟨rfl, rfl, rfl⟩
           refine ⟨(Ic Mb0 (Ic Mb1 In0)), ?_⟩
           exact Jt 17 Z<|Jm 18 Z<|Aw.known (d := 211) Z (X)<|Jz 19 Z<|Jz 20 Z<|Jz 21 Z<|Jz 22 Z<|Jf 23 Z<|Ja 24 Z<|Ja 25 Z<|Ad<|Re0<|Re0<|Sd<|⟨_, by exact R2, false, Z, Z, Z, H⟩
         ·intro t
          obtain ⟨t, H⟩ := If t H
          refine fw _ Z (Ic Mb0 (Ic Mb1 In0))<|Jm 0 Z<|JF 1 0 Z<|Jl 2 (Vi p1.kind) Z (Rb1 Z)<|Jc 3 Z<|Jm 4 Z<|Aw.known (d := 197) Z (hX m)<|Jz 5 Z<|Jz 6 Z<|Jz 7 Z<|Jt 8 Z<|Jm 9 Z<|BF 10 1 Z<|Bl 11 (Vi p2.case_) Z (Rb0 Z)<|Bc 12 Z<|Jt 13 Z<|Jm 14 Z<|Aw.known (d := 207) Z (iE t)<|Jz 15 Z<|Jz 16 Z<|Jf 17 Z<|Jm 18 Z<|?_
          exact Jz 19 Z<|Jz 20 Z<|Jz 21 Z<|Jz 22 Z<|Jf 23 Z<|Ja 24 Z<|Ja 25 Z<|Ad<|Re0<|Re0<|Sd<|⟨_, by exact R2, false, Z, Z, Z, H⟩
        ·intro m
         obtain ⟨m, H⟩ := If m H
         rcases gY (dcd (p1.kind = 6)) with b | b <;> revert b
         ·intro r
          obtain ⟨r, H⟩ := It r H
          rcases gY (dcd (p2.case_ = (-1))) with b | b <;> revert b
          ·intro u
           obtain ⟨u, H⟩ := It u H
           obtain ⟨aE, aM, H⟩ := bnd H
           rcases gY aE with b | b <;> revert b
           ·intro Y
            have H := ift Y H
            refine fw _ Z (Ic Mb0 (Ic Mb1 In0))<|Jm 0 Z<|JF 1 0 Z<|Jl 2 (Vi p1.kind) Z (Rb1 Z)<|Jc 3 Z<|Jm 4 Z<|Aw.known (d := 197) Z (iE m)<|BF 5 0 Z<|Bl 6 (Vi p1.kind) Z (Rb1 Z)<|Bc 7 Z<|Jf 8 Z<|Jm 9 Z<|Aw.known (d := 202) Z (hX r)<|BF 10 1 Z<|Bl 11 (Vi p2.case_) Z (Rb0 Z)<|Bc 12 Z<|Jt 13 Z<|Jm 14 Z<|Aw.known (d := 207) Z (hX u)<|BL 15 5 (ff p2) Z (Rb0 Z)<|?_
            refine gB 16 (by kernel_rfl) (kr Z Z Z Z Z ?_)
            refine Ek Tryz.call111 Z (iQ p2 false true aE aM _ _ ) ?_
            rintro _ _ _ - ⟨rfl, rfl, rfl⟩
            refine ⟨(Ic Mb0 (Ic Mb1 In0)), ?_⟩
            exact Jt 17 Z<|Jm 18 Z<|Aw.known (d := 211) Z (Y)<|BF 19 4 Z<|Bl 20 (Vi p2.number) Z (Rb0 Z)<|Bm 21 Z<|Bc 22 Z<|Jt 23 Z<|Ja 24 Z<|Ja 25 Z<|Ad<|Re0<|Re0<|Sd<|⟨_, by exact R2, (dcd (p2.number = aa)), Z, Z, Z, H⟩
           ·intro Y
            have H := f0 (btf Y) H
            refine fw _ Z (Ic Mb0 (Ic Mb1 In0))<|Jm 0 Z<|JF 1 0 Z<|Jl 2 (Vi p1.kind) Z (Rb1 Z)<|Jc 3 Z<|Jm 4 Z<|Aw.known (d := 197) Z (iE m)<|BF 5 0 Z<|Bl 6 (Vi p1.kind) Z (Rb1 Z)<|Bc 7 Z<|Jf 8 Z<|Jm 9 Z<|Aw.known (d := 202) Z (hX r)<|BF 10 1 Z<|Bl 11 (Vi p2.case_) Z (Rb0 Z)<|Bc 12 Z<|Jt 13 Z<|Jm 14 Z<|Aw.known (d := 207) Z (hX u)<|BL 15 5 (ff p2) Z (Rb0 Z)<|?_
            refine gB 16 (by kernel_rfl) (kr Z Z Z Z Z ?_)
            refine Ek Tryz.call111 Z (iQ p2 false true aE aM _ _ ) ?_
            rintro _ _ _ - ⟨rfl, rfl, rfl⟩
            refine ⟨(Ic Mb0 (Ic Mb1 In0)), ?_⟩
            exact Jt 17 Z<|Jm 18 Z<|Aw.known (d := 211) Z (Y)<|Jz 19 Z<|Jz 20 Z<|Jz 21 Z<|Jz 22 Z<|Jf 23 Z<|Ja 24 Z<|Ja 25 Z<|Ad<|Re0<|Re0<|Sd<|⟨_, by exact R2, false, Z, Z, Z, H⟩
          ·intro u
           obtain ⟨u, H⟩ := If u H
           refine fw _ Z (Ic Mb0 (Ic Mb1 In0))<|Jm 0 Z<|JF 1 0 Z<|Jl 2 (Vi p1.kind) Z (Rb1 Z)<|Jc 3 Z<|Jm 4 Z<|Aw.known (d := 197) Z (iE m)<|BF 5 0 Z<|Bl 6 (Vi p1.kind) Z (Rb1 Z)<|Bc 7 Z<|Jf 8 Z<|Jm 9 Z<|Aw.known (d := 202) Z (hX r)<|BF 10 1 Z<|Bl 11 (Vi p2.case_) Z (Rb0 Z)<|Bc 12 Z<|Jt 13 Z<|Jm 14 Z<|Aw.known (d := 207) Z (iE u)<|Jz 15 Z<|Jz 16 Z<|Jf 17 Z<|?_
           exact Jm 18 Z<|Jz 19 Z<|Jz 20 Z<|Jz 21 Z<|Jz 22 Z<|Jf 23 Z<|Ja 24 Z<|Ja 25 Z<|Ad<|Re0<|Re0<|Sd<|⟨_, by exact R2, false, Z, Z, Z, H⟩
         ·intro r
          obtain ⟨r, H⟩ := If r H
          refine fw _ Z (Ic Mb0 (Ic Mb1 In0))<|Jm 0 Z<|JF 1 0 Z<|Jl 2 (Vi p1.kind) Z (Rb1 Z)<|Jc 3 Z<|Jm 4 Z<|Aw.known (d := 197) Z (iE m)<|BF 5 0 Z<|Bl 6 (Vi p1.kind) Z (Rb1 Z)<|Bc 7 Z<|Jf 8 Z<|Jm 9 Z<|Aw.known (d := 202) Z (iE r)<|Jz 10 Z<|Jz 11 Z<|Jz 12 Z<|Jf 13 Z<|Jm 14 Z<|Jz 15 Z<|Jz 16 Z<|Jf 17 Z<|Jm 18 Z<|?_
          exact Jz 19 Z<|Jz 20 Z<|Jz 21 Z<|Jz 22 Z<|Jf 23 Z<|Ja 24 Z<|Ja 25 Z<|Ad<|Re0<|Re0<|Sd<|⟨_, by exact R2, false, Z, Z, Z, H⟩
       rintro _ _ _ - ⟨af, rfl, rfl, rfl, H⟩
       unfold mA at H
       refine fx ?_
       obtain ⟨n, o⟩ := ic H
       subst e f
       refine ⟨(.inl Z), [(sv a), (.bool af)], ⟨(sv a), _, Z, Z, ⟨(.bool af), _, Z, Z, Z⟩⟩, ?_⟩
       exact Sd ⟨a, Z, Z, c⟩
      ·intro V
       obtain ⟨V, H⟩ := If V H
       refine ft<|fc<|fa<|Ea Z<|Ea Z<|fb<|fx<|?_
       obtain ⟨n, o⟩ := ic H
       subst e f
       refine ⟨(.inl Z), [(sv fB), (.bool false)], ⟨(sv fB), _, Z, Z, ⟨(.bool false), _, Z, Z, Z⟩⟩, ?_⟩
       exact Re0<|Re0<|Sd<|⟨fB, Z, Z, (Slr.nil fH _)⟩
theorem yQ (p0 : ad1) (g : SV) (p1 : Op) (b c : SV) (p2 : Result) (d : ad1) (e : Bool) (H : oY p0 p1 p2 = some (d, e)) (K : Kp) (G : List Ent) (m : Slr fH K (sv g) p0) (n : Slr fW K (sv b) p1.cases) (o : Slr Ty.i64 K (sv c) p1.draws) :
  Fc Tryz.prog 51 #[(sv g), (.agg (fj p1 b c).toArray), (.agg (ff p2).toArray)] K (G) (fun v j i => ∃ (h : SV), v = (.tuple #[(sv h), (.bool e)]) ∧ G = i ∧ Slr fH j (sv h) d) := by
 refine fN Tryz.func51 Z Tryz.ntmps51 Tryz.results51 Z ?_
 unfold oY at H
 refine fc<|fa<|?_
 refine fe Z (fU (cs := (fj p1 b c)) Z Z Z (fun t => ?_))
 refine fe Z (fU (cs := (ff p2)) Z Z Z (fun u => ?_))
 refine Ea Z<|Ea Z<|fb<|fc<|fa<|Em Z<|EL 7 (fj p1 b c) Z (Rb1 Z)<|EL 5 (ff p2) Z (Rb0 Z)<|?_
 obtain ⟨r, x14, q, H⟩ := iw H
 refine fe Z (Ek Tryz.call85 Z (En p0 g p1 b c p2 r x14 q _ _ m n o) ?_)
 rintro _ s _ w ⟨f, rfl, rfl, p⟩
 refine Em Z<|Ex Z<|Ex Z<|Ea Z<|Ea Z<|fb<|fc<|fc<|fa<|Em Z<|Eq Z (gf Z)<|fb<|?_
 refine fm Z ?_ ?_
 ·intro a
  have a := iv a
  have H := f0 (btf a) H
  refine fc<|fa<|Ea Z<|Ea Z<|fb<|fx<|?_
  obtain ⟨k, l⟩ := ic H
  subst d e
  refine ⟨(.inl Z), [(sv fB), (.bool false)], ⟨(sv fB), _, Z, Z, ⟨(.bool false), _, Z, Z, Z⟩⟩, ?_⟩
  exact Re0<|Re0<|Sd<|⟨fB, Z, Z, (Slr.nil fH _)⟩
 ·intro a
  have a := ir a
  have H := ift a H
  refine ft<|fc<|fa<|Em Z<|Ea Z<|Ea Z<|fb<|fx<|?_
  obtain ⟨k, l⟩ := ic H
  subst d e
  refine ⟨(.inl Z), [(sv f), (.bool true)], ⟨(sv f), _, Z, Z, ⟨(.bool true), _, Z, Z, Z⟩⟩, ?_⟩
  exact Re0<|Re0<|Sd<|⟨f, Z, Z, p⟩
end Go.Hx
