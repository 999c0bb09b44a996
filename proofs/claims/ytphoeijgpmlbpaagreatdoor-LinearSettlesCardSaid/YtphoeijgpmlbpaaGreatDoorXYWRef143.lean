
import Derived.Test.YtphoeijgpmlbpaaGreatDoorXYM
import Derived.Test.YtphoeijgpmlbpaaGreatDoorXYWModel4
import Derived.Test.YtphoeijgpmlbpaaGreatDoorXYWRef153
import Derived.Test.YtphoeijgpmlbpaaGreatDoorXYWDraw
set_option linter.unusedVariables false
set_option linter.unusedSimpArgs false
namespace Go.Hx
open Go Go.Proofs
set_option maxRecDepth 10000
set_option maxHeartbeats 1000000
theorem yR (p0 : ad1) (i : SV) (p1 : Op) (g h : SV) (j : ad7) (H : o5 p0 p1 = some j) (K : Kp) (G : List Ent) (aa : Slr fH K (sv i) p0) (au : Slr fW K (sv g) p1.cases) (av : Slr Ty.i64 K (sv h) p1.draws) :
  Fc Tryz.prog 84 #[(sv i), (.agg (fj p1 g h).toArray)] K (G) (fun v b c => ∃ (ak : SV), v = (sv ak) ∧ (.tok 38 5 [(sv ak)]) :: G = c ∧ Slr fP b (sv ak) j) := by
 refine fN Tryz.func84 Z Tryz.ntmps84 Tryz.results84 Z ?_
 unfold o5 at H
 refine fc<|fa<|?_
 refine fe Z (fU (cs := (fj p1 g h)) Z Z Z (fun e => ?_))
 refine Ea Z<|fb<|fc<|fa<|Ea Z<|Ea Z<|fb<|?_
 refine fz (fun d b c => ∃ (Q : SV) (M : ad7) (O : List (List Value)), [(0, (sv i)), (3, (Vp e)), (5, (sv Q)), (6, (sv fB))] = d ∧ K = b ∧ (.blk e 51 (fj p1 g h)) :: (.row (sv Q) 38 5 O.flatten) :: G = c ∧ o4 p0 p1 M = some j ∧ RowR fP b O M) ?_ ?_
 ·refine fc<|fa<|EF 0 Z<|El (Vi p1.kind) Z (Rb0 Z)<|Ec Z<|fb<|?_
  refine fm Z ?_ ?_
  ·intro z
   obtain ⟨z, H⟩ := It z H
   refine fa<|Eq Z (fG (cs := (ff (Result.mk 6 (-1) 0 false 0))) Z Z Z Z Z Z)<|Eq Z (fG (cs := (ff (Result.mk 5 (-1) 0 false 0))) Z Z Z Z Z Z)<|?_
   have am : RowR fP K [(ff (Result.mk 6 (-1) 0 false 0)), (ff (Result.mk 5 (-1) 0 false 0))] [(Result.mk 6 (-1) 0 false 0), (Result.mk 5 (-1) 0 false 0)] := RowR.cons Z (RowR.cons Z (RowR.nil))
   refine fe Z (gh (T := fP) (rows := [(ff (Result.mk 6 (-1) 0 false 0)), (ff (Result.mk 5 (-1) 0 false 0))]) (l := [(Result.mk 6 (-1) 0 false 0), (Result.mk 5 (-1) 0 false 0)]) Z Z Z am Z Z Z Z Z Z Z Z (fun bq => ?_))
   exact Ea Z<|fb<|Pu1<|Sd<|⟨_, by exact R4, bq, [(Result.mk 6 (-1) 0 false 0), (Result.mk 5 (-1) 0 false 0)], [(ff (Result.mk 6 (-1) 0 false 0)), (ff (Result.mk 5 (-1) 0 false 0))], Z, Z, Z, H, am⟩
  ·intro z
   obtain ⟨z, H⟩ := If z H
   refine ft ?_
   have aP : RowR fP K [] [] := RowR.nil
   exact Shift.nilRow 38 5<|Pu1<|Sd<|⟨_, by exact R4, fB, ([] : ad7), ([] : List (List Value)), Z, Z, Z, H, aP⟩
 rintro _ _ _ - ⟨Q, M, O, rfl, rfl, rfl, H, aO⟩
 unfold o4 at H
 refine fc<|fa<|EL 7 (fj p1 g h) Z (Rb0 Z)<|?_
 obtain ⟨I, bh, H⟩ := bnd H
 refine fe Z (Ek Tryz.call44 Z (ln p1 g h I bh _ _ au av) ?_)
 rintro _ o _ u ⟨R, rfl, rfl, m⟩
 refine Ea Z<|fb<|?_
 refine fz (fun d b c => ∃ (E : SV) (N : ad7) (P : List (List Value)), [(0, (sv i)), (3, (Vp e)), (5, (sv E)), (6, (sv fB))] = d ∧ (.blk e 51 (fj p1 g h)) :: (.row (sv E) 38 5 P.flatten) :: G = c ∧ sf p0 p1 N = some j ∧ RowR fP b P N) ?_ ?_
 ·refine fc<|fa<|Ea Z<|fb<|fA<|?_
  refine fY (fun aK d b c => ∃ (n : SV) (r : ad7) (s : List (List Value)) (f : Int), [(0, (sv i)), (3, (Vp e)), (5, (sv n)), (6, (sv fB)), (7, (sv R)), (8, (Vi f))] = d ∧ o = b ∧ (.blk e 51 (fj p1 g h)) :: (.row (sv n) 38 5 s.flatten) :: G = c ∧ lp2 (sg p0 I p1) aK r f = some j ∧ RowR fP b s r) BIG ?_ ?_
  ·refine Pu1<|Pu1<|?_
   have bd := aO.mono u
   exact Sd ⟨_, by exact R6, Q, M, O, 0, Z, Z, Z, H, bd⟩
  rintro aK _ _ _ - ⟨n, r, s, f, rfl, rfl, rfl, H, L⟩
  obtain ⟨bS, ae, rfl, ar, H⟩ := jC H
  unfold sg at H
  refine fc<|fc<|fa<|Em Z<|Em Z<|Eq Z (ge (T := fW) m Z Z)<|Ec Z<|fb<|?_
  refine fm Z ?_ ?_
  ·intro A
   obtain ⟨A, H⟩ := It A H
   refine ft<|fc<|fA<|fc<|fa<|Ea Z<|fb<|?_
   refine fz (fun d b c => ∃ (a : Int), [(0, (sv i)), (3, (Vp e)), (5, (sv n)), (6, (sv fB)), (7, (sv R)), (8, (Vi f)), (9, (Vi a))] = d ∧ o = b ∧ (.blk e 51 (fj p1 g h)) :: (.row (sv n) 38 5 s.flatten) :: G = c ∧ o0 p0 r I f p1 ae a = some j) ?_ ?_
   ·refine fc<|fa<|EF 0 Z<|El (Vi p1.kind) Z (Rb0 Z)<|Ec Z<|fb<|?_
    refine fm Z ?_ ?_
    ·intro B
     obtain ⟨B, H⟩ := It B H
     exact fa<|Em Z<|Ea Z<|fb<|Pu1<|Pu1<|Sd<|⟨_, by exact R7, f, Z, Z, Z, H⟩
    ·intro B
     obtain ⟨B, H⟩ := If B H
     exact ft<|Pu1<|Pu1<|Sd<|⟨_, by exact R7, (-1), Z, Z, Z, H⟩
   rintro _ _ _ - ⟨a, rfl, rfl, rfl, H⟩
   unfold o0 at H
   refine fc<|fc<|fa<|Em Z<|Em Z<|?_
   obtain ⟨bA, aC, H⟩ := bnd H
   obtain ⟨_, rfl, aV⟩ := Slr.at m aC
   refine Eq Z (Qi (T := fW) m aC Z)<|EF 0 Z<|El (.bool bA.send) Z (Rdc.k aV Z)<|fb<|?_
   refine fm Z ?_ ?_
   ·intro U
    have H := ift U H
    refine fc<|fa<|Em Z<|Em Z<|Eq Z (fG (cs := (ff (Result.mk 5 a 0 false 0))) Z Z Z Z Z Z)<|Em Z<|Eq Z (fG (cs := (ff (Result.mk 1 a 0 false 0))) Z Z Z Z Z Z)<|?_
    have an : RowR fP o [(ff (Result.mk 5 a 0 false 0)), (ff (Result.mk 1 a 0 false 0))] [(Result.mk 5 a 0 false 0), (Result.mk 1 a 0 false 0)] := RowR.cons Z (RowR.cons Z (RowR.nil))
    refine fe Z (gh (T := fP) (rows := [(ff (Result.mk 5 a 0 false 0)), (ff (Result.mk 1 a 0 false 0))]) (l := [(Result.mk 5 a 0 false 0), (Result.mk 1 a 0 false 0)]) Z Z Z an Z Z Z Z Z Z Z Z (fun bZ => ?_))
    obtain ⟨bB, bi, H⟩ := bnd H
    refine fe Z (gZ (T := fP) (bytes := 40) Z Z Z Mb2 L (SrcT.row Mb0 an Z) bi Z Z Z Z Z Z Z Z (fun br bm aR => ⟨_, (.there (.there .here)), ?_⟩))
    refine Ow.shift (Re0 (Sd ?_))
    exact Ea Z<|fb<|f5<|fa<|Em Z<|Er (wI (f + 1)) Z<|Ea Z<|fb<|Pu1<|Pu1<|Sd<|⟨_, by exact R6, _, Nat.lt_succ_self _, br, bB, bm, (wI (f + 1)), Z, Z, Z, (ar ▸ H), aR⟩
   ·intro U
    have H := f0 (btf U) H
    refine ft ?_
    refine fz (fun d b c => ∃ (aj : SV) (ag : ad7) (ah : List (List Value)), [(0, (sv i)), (3, (Vp e)), (5, (sv aj)), (6, (sv fB)), (7, (sv R)), (8, (Vi f)), (9, (Vi a))] = d ∧ o = b ∧ (.blk e 51 (fj p1 g h)) :: (.row (sv aj) 38 5 ah.flatten) :: G = c ∧ oZ p0 I f a p1 ae ag = some j ∧ RowR fP b ah ag) ?_ ?_
    ·refine fz (fun d b c => ∃ (ai : Bool), [(0, (sv i)), (3, (Vp e)), (5, (sv n)), (6, (sv fB)), (7, (sv R)), (8, (Vi f)), (9, (Vi a)), (62, (.bool ai))] = d ∧ o = b ∧ (.blk e 51 (fj p1 g h)) :: (.row (sv n) 38 5 s.flatten) :: G = c ∧ tl p0 r I f a p1 ae ai = some j) ?_ ?_
     ·refine fa<|Em Z<|Em Z<|Em Z<|?_
      obtain ⟨aM, aD, H⟩ := bnd H
      obtain ⟨_, rfl, aW⟩ := Slr.at m aD
      refine Eq Z (Qi (T := fW) m aD Z)<|EF 1 Z<|El (Vi aM.channel) Z (Rdc.k aW Z)<|?_
      obtain ⟨bC, bj, H⟩ := bnd H
      have ad := aa.mono u
      refine fe Z (Ek Tryz.call107 Z (lJ p0 i aM.channel bC bj _ _ ad) ?_)
      rintro _ _ _ - ⟨rfl, rfl, rfl⟩
      refine Em Z ?_
      refine Ee Z ?_ ?_
      ·intro V
       have H := ift V H
       refine Vm Z<|Vm Z<|Vm Z<|?_
       obtain ⟨bD, aE, H⟩ := bnd H
       obtain ⟨_, rfl, aX⟩ := Slr.at m aE
       refine Vq Z (Qi (T := fW) m aE Z)<|VF 1 Z<|Vl (Vi bD.channel) Z (Rdc.k aX Z)<|?_
       obtain ⟨bE, aF, H⟩ := bnd H
       obtain ⟨bV, a4, aY⟩ := Slr.at ad aF
       obtain ⟨bs, rfl, be⟩ := a4
       exact Vq Z (Qi (T := fH) ad aF Z)<|VF 1 Z<|Vl (sv bs) Z (Rdc.k aY Z)<|Vq Z (ge (T := Ty.u64) be Z Z)<|Vc Z<|Et Z<|fb<|Pu1<|Pu1<|Sd<|⟨_, by exact R8, (dcd ((bE.buffer.length : Int) > 0)), Z, Z, Z, H⟩
      ·intro V
       have H := f0 (btf V) H
       exact Ez Z<|Ez Z<|Ez Z<|Ez Z<|Ez Z<|Ez Z<|Ez Z<|Ez Z<|Ez Z<|Ez Z<|Ez Z<|Ef Z<|fb<|Pu1<|Pu1<|Sd<|⟨_, by exact R8, false, Z, Z, Z, H⟩
     rintro _ _ _ - ⟨ai, rfl, rfl, rfl, H⟩
     unfold tl at H
     refine fm Z ?_ ?_
     ·intro W
      have H := ift W H
      refine fa<|Em Z<|Em Z<|Em Z<|Em Z<|Em Z<|?_
      obtain ⟨bF, aG, H⟩ := bnd H
      obtain ⟨_, rfl, aZ⟩ := Slr.at m aG
      refine Eq Z (Qi (T := fW) m aG Z)<|EF 1 Z<|El (Vi bF.channel) Z (Rdc.k aZ Z)<|?_
      obtain ⟨b2, aH, H⟩ := bnd H
      have ay := aa.mono u
      obtain ⟨bW, a5, a0⟩ := Slr.at ay aH
      obtain ⟨bt, rfl, az⟩ := a5
      refine Eq Z (Qi (T := fH) ay aH Z)<|EF 1 Z<|El (sv bt) Z (Rdc.k a0 Z)<|?_
      obtain ⟨x, aI, H⟩ := bnd H
      obtain ⟨_, rfl, a1⟩ := Slr.at az aI
      refine Eq Z (Qi (T := Ty.u64) az aI Z)<|El (.int .u64 x) Z (Rdc.k a1 Z)<|Eq Z (fG (cs := (ff (Result.mk 2 a x true 0))) Z Z Z Z Z Z)<|?_
      have ao : RowR fP o [(ff (Result.mk 2 a x true 0))] [(Result.mk 2 a x true 0)] := RowR.cons Z (RowR.nil)
      refine fe Z (gh (T := fP) (rows := [(ff (Result.mk 2 a x true 0))]) (l := [(Result.mk 2 a x true 0)]) Z Z Z ao Z Z Z Z Z Z Z Z (fun b0 => ?_))
      obtain ⟨bG, bk, H⟩ := bnd H
      refine fe Z (gZ (T := fP) (bytes := 40) Z Z Z Mb2 L (SrcT.row Mb0 ao Z) bk Z Z Z Z Z Z Z Z (fun bu bn aT => ⟨_, (.there (.there .here)), ?_⟩))
      refine Ow.shift (Re0 (Sd ?_))
      exact Ea Z<|fb<|Pu1<|Pu1<|Sd<|⟨_, by exact R7, bu, bG, bn, Z, Z, Z, H, aT⟩
     ·intro W
      have H := f0 (btf W) H
      exact ft<|Pu1<|Pu1<|Sd<|⟨_, by exact R7, n, r, s, Z, Z, Z, H, L⟩
    rintro _ _ _ - ⟨aj, ag, ah, rfl, rfl, rfl, H, aS⟩
    unfold oZ at H
    refine fa<|Em Z<|Em Z<|Eq Z (fG (cs := (ff (Result.mk 2 a 0 false 0))) Z Z Z Z Z Z)<|?_
    have ap : RowR fP o [(ff (Result.mk 2 a 0 false 0))] [(Result.mk 2 a 0 false 0)] := RowR.cons Z (RowR.nil)
    refine fe Z (gh (T := fP) (rows := [(ff (Result.mk 2 a 0 false 0))]) (l := [(Result.mk 2 a 0 false 0)]) Z Z Z ap Z Z Z Z Z Z Z Z (fun b1 => ?_))
    obtain ⟨bH, bl, H⟩ := bnd H
    refine fe Z (gZ (T := fP) (bytes := 40) Z Z Z Mb2 aS (SrcT.row Mb0 ap Z) bl Z Z Z Z Z Z Z Z (fun bv bo aU => ⟨_, (.there (.there .here)), ?_⟩))
    refine Ow.shift (Re0 (Sd ?_))
    exact Ea Z<|fb<|fa<|Em Z<|Er (wI (f + 1)) Z<|Ea Z<|fb<|Pu1<|Pu1<|Sd<|⟨_, by exact R6, _, Nat.lt_succ_self _, bv, bH, bo, (wI (f + 1)), Z, Z, Z, (ar ▸ H), aU⟩
  ·intro A
   obtain ⟨A, H⟩ := If A H
   exact f5<|Pu1<|Pu1<|Sd<|⟨_, by exact R4, n, r, s, Z, Z, H, L⟩
 rintro _ bL _ Y ⟨E, N, P, rfl, rfl, H, aQ⟩
 unfold sf at H
 refine fz (fun d b c => ∃ (t : SV) (af : ad7), [(6, (sv t))] = d ∧ (.tok 38 5 [(sv t)]) :: G = c ∧ wM af = some j ∧ Slr fP b (sv t) af) ?_ ?_
 ·refine fc<|fa<|Ea Z<|fb<|fA<|?_
  refine fY (fun aJ d b c => ∃ (w : SV) (D : ad7) (p : Int), [(0, (sv i)), (3, (Vp e)), (5, (sv E)), (6, (sv w)), (10, (Vi p))] = d ∧ (.blk e 51 (fj p1 g h)) :: (.tok 38 5 [(sv w)]) :: (.row (sv E) 38 5 P.flatten) :: G = c ∧ lp2 (se p0 N p1) aJ D p = some j ∧ Slr fP b (sv w) D) BIG ?_ ?_
  ·exact Shift.nilTok1 38 5<|Pu2<|Pu1<|Pu2<|Sd<|⟨_, by exact R5, fB, ([] : ad7), 0, Z, Z, H, (Slr.nil fP _)⟩
  rintro aJ _ bI _ J ⟨w, D, p, rfl, rfl, H, ab⟩
  obtain ⟨bR, bQ, rfl, aq, H⟩ := jC H
  unfold se at H
  refine fc<|fc<|fa<|Em Z<|Em Z<|?_
  have C := aQ.mono J
  refine Eq Z (lh (T := fP) Mb2 C Z Z Z)<|Ec Z<|fb<|?_
  refine fm Z ?_ ?_
  ·intro y
   obtain ⟨y, H⟩ := It y H
   refine ft<|fc<|fA<|fc<|?_
   obtain ⟨aL, aA, H⟩ := bnd H
   obtain ⟨bw, bx, bf, H⟩ := iw H
   refine fw _ Z (Ic Mb0 (Ic Mb1 (Ic Mb2 In0)))<|Jm 0 Z<|JL 1 7 (fj p1 g h) Z (Rb0 Z)<|Jm 2 Z<|Jm 3 Z<|?_
   obtain ⟨bT, aw, a2⟩ := RowR.at C aA
   obtain rfl := a2
   refine Jq 4 Z (gP (T := fP) Mb2 C aw (fR aA).1 Z Z Z Z Z)<|JL 5 5 (ff aL) Z (ib (T := fP) Mb2 C aw Z Z)<|?_
   refine Ao 6 Z ?_
   have a7 := ((aa.mono u).mono Y).mono J
   have a8 := ((au.mono u).mono Y).mono J
   have a9 := ((av.mono u).mono Y).mono J
   refine Ek Tryz.call51 Z (yQ p0 i p1 g h aL bw bx bf _ _ a7 a8 a9) ?_
   rintro _ aN _ X ⟨bX, rfl, rfl, bP⟩
   refine ⟨(Ic Mb0 (Ic Mb1 (Ic Mb2 In0))), ?_⟩
   refine Jm 7 Z<|Jx 8 Z<|Jx 9 Z<|Ja 10 Z<|Ja 11 Z<|Ad<|fc<|fa<|Em Z<|fb<|?_
   refine fm Z ?_ ?_
   ·intro S
    have H := ift S H
    refine fa<|Em Z<|Em Z<|Em Z<|?_
    obtain ⟨F, aB, H⟩ := bnd H
    have ac := C.mono X
    obtain ⟨bU, ax, a3⟩ := RowR.at ac aB
    obtain rfl := a3
    refine Eq Z (gP (T := fP) Mb2 ac ax (fR aB).1 Z Z Z Z Z)<|EL 5 (ff F) Z (ib (T := fP) Mb2 ac ax Z Z)<|?_
    have al : RowR fP aN [(ff F)] [F] := RowR.cons Z (RowR.nil)
    refine fe Z (gh (T := fP) (rows := [(ff F)]) (l := [F]) Z Z Z al Z Z Z Z Z Z Z Z (fun bY => ?_))
    obtain ⟨bz, bg, H⟩ := bnd H
    have bb := ab.mono X
    refine fe Z (f8 (T := fP) (bytes := 40) (q := 0) Z Z Z bb Mb2 Z (SrcT.row Mb0 al Z) bg Z Z Z Z Z Z Z Z (fun bp bJ bN ba => ⟨_, (.there (.there .here)), ?_⟩))
    refine Ow.shift (Re0 (Sd ?_))
    exact Ea Z<|fb<|fa<|Em Z<|Er (wI (p + 1)) Z<|Ea Z<|fb<|Pu2<|Pu2<|Pu2<|Sd<|⟨_, by exact R5, _, Nat.lt_succ_self _, bp, bz, (wI (p + 1)), Z, Z, (aq ▸ H), ba⟩
   ·intro S
    have H := f0 (btf S) H
    refine ft<|fa<|Em Z<|Er (wI (p + 1)) Z<|Ea Z<|fb<|Pu2<|Pu2<|Pu2<|?_
    have bc := ab.mono X
    exact Sd ⟨_, by exact R5, _, Nat.lt_succ_self _, w, D, (wI (p + 1)), Z, Z, (aq ▸ H), bc⟩
  ·intro y
   obtain ⟨y, H⟩ := If y H
   exact f5<|Pu1<|Re1<|Re1<|Sd<|⟨_, by exact R1, w, D, Z, Z, H, ab⟩
 rintro _ bK _ bO ⟨t, af, rfl, rfl, H, a6⟩
 unfold wM at H
 refine fc<|fa<|Em Z<|Ea Z<|fb<|fx<|?_
 obtain bM := gq H
 subst j
 refine ⟨(.inl Z), [(sv t)], ⟨(sv t), _, Z, Z, Z⟩, ?_⟩
 exact Sd ⟨t, Z, Z, a6⟩
theorem yS (p0 : ad1) (w : SV) (p1 : Op) (o p : SV) (p2 : Result) (p3 : Op) (q r : SV) (p4 : Result) (b : Bool) (H : o7 p0 p1 p2 p3 p4 = some b) (K : Kp) (G : List Ent) (D : Slr fH K (sv w) p0) (S : Slr fW K (sv o) p1.cases) (U : Slr Ty.i64 K (sv p) p1.draws) (V : Slr fW K (sv q) p3.cases) (W : Slr Ty.i64 K (sv r) p3.draws) :
  Fc Tryz.prog 104 #[(sv w), (.agg (fj p1 o p).toArray), (.agg (ff p2).toArray), (.agg (fj p3 q r).toArray), (.agg (ff p4).toArray)] K (G) (fun v d c => v = (.bool b) ∧ K = d ∧ G = c) := by
 refine fN Tryz.func104 Z Tryz.ntmps104 Tryz.results104 Z ?_
 unfold o7 at H
 refine fc<|fa<|?_
 refine fe Z (fU (cs := (fj p1 o p)) Z Z Z (fun J => ?_))
 refine fe Z (fU (cs := (ff p2)) Z Z Z (fun L => ?_))
 refine fe Z (fU (cs := (fj p3 q r)) Z Z Z (fun M => ?_))
 refine fe Z (fU (cs := (ff p4)) Z Z Z (fun x => ?_))
 refine Ea Z<|fb<|fc<|?_
 refine fz (fun s d c => ∃ (F : Bool), [(0, (sv w)), (6, (Vp J)), (7, (Vp L)), (8, (Vp M)), (9, (Vp x)), (38, (.bool F))] = s ∧ K = d ∧ (.blk x 38 (ff p4)) :: (.blk M 51 (fj p3 q r)) :: (.blk L 38 (ff p2)) :: (.blk J 51 (fj p1 o p)) :: G = c ∧ nf p0 p4 p3 p2 p1 F = some b) ?_ ?_
 ·refine fa<|EF 0 Z<|El (Vi p2.kind) Z (Rb2 Z)<|Ec Z<|Em Z<|?_
  refine Ee Z ?_ ?_
  ·intro j
   have j := kT (iv (j))
   have H := f0 j H
   refine Ez Z<|Ez Z<|Ez Z<|Et Z<|Em Z<|Ez Z<|Ez Z<|Ez Z<|Et Z<|Em Z<|Ez Z<|Ez Z<|Ez Z<|Et Z<|Em Z<|Ez Z<|Ez Z<|Ez Z<|Et Z<|fb<|Pu3<|Pu3<|?_
   exact Pu3<|Pu3<|Sd<|⟨_, by exact R6, true, Z, Z, Z, H⟩
  ·intro j
   have j := kU (ir (j))
   have H := ift j H
   refine VF 0 Z<|Vl (Vi p4.kind) Z (Rb0 Z)<|Vc Z<|Ef Z<|Em Z<|?_
   refine Ee Z ?_ ?_
   ·intro l
    have l := kT (iv (l))
    have H := f0 l H
    exact Ez Z<|Ez Z<|Ez Z<|Et Z<|Em Z<|Ez Z<|Ez Z<|Ez Z<|Et Z<|Em Z<|Ez Z<|Ez Z<|Ez Z<|Et Z<|fb<|Pu3<|Pu3<|Pu3<|Pu3<|Sd<|⟨_, by exact R6, true, Z, Z, Z, H⟩
   ·intro l
    have l := kU (ir (l))
    have H := ift l H
    refine VL 5 (ff p2) Z (Rb2 Z) ?_
    obtain ⟨ag, ac, H⟩ := bnd H
    refine hQ Z Z Z Z (Ek Tryz.call111 Z (iQ p2 false false ag ac _ _ ) ?_)
    rintro _ _ _ - ⟨rfl, rfl, rfl⟩
    refine Vq Z (gf Z)<|Ef Z<|Em Z<|?_
    refine Ee Z ?_ ?_
    ·intro m
     have m := iv m
     have H := f0 (btf m) H
     exact Ez Z<|Ez Z<|Ez Z<|Et Z<|Em Z<|Ez Z<|Ez Z<|Ez Z<|Et Z<|fb<|Pu3<|Pu3<|Pu3<|Pu3<|Sd<|⟨_, by exact R6, true, Z, Z, Z, H⟩
    ·intro m
     have m := ir m
     have H := ift m H
     refine VL 5 (ff p4) Z (Rb0 Z) ?_
     obtain ⟨ah, ad, H⟩ := bnd H
     refine hQ Z Z Z Z (Ek Tryz.call111 Z (iQ p4 true false ah ad _ _ ) ?_)
     rintro _ _ _ - ⟨rfl, rfl, rfl⟩
     refine Vq Z (gf Z)<|Ef Z<|Em Z<|?_
     refine Ee Z ?_ ?_
     ·intro n
      have n := iv n
      have H := f0 (btf n) H
      exact Ez Z<|Ez Z<|Ez Z<|Et Z<|fb<|Pu3<|Pu3<|Pu3<|Pu3<|Sd<|⟨_, by exact R6, true, Z, Z, Z, H⟩
     ·intro n
      have n := ir n
      have H := ift n H
      exact VF 3 Z<|Vl (.bool p4.ok) Z (Rb0 Z)<|Vq Z (gf Z)<|Ef Z<|fb<|Pu3<|Pu3<|Pu3<|Pu3<|Sd<|⟨_, by exact R6, (!(p4.ok)), Z, Z, Z, H⟩
 rintro _ _ _ - ⟨F, rfl, rfl, rfl, H⟩
 unfold nf at H
 refine fm Z ?_ ?_
 ·intro C
  have H := ift C H
  refine fc<|fa<|Ea Z<|fb<|fx<|?_
  obtain N := gq H
  subst b
  refine ⟨(.inl Z), [(.bool false)], ⟨(.bool false), _, Z, Z, Z⟩, ?_⟩
  exact Re0<|Re0<|Re0<|Re0<|Sd<|⟨Z, Z, Z⟩
 ·intro C
  have H := f0 (btf C) H
  refine ft<|fc<|fa<|EL 7 (fj p1 o p) Z (Rb3 Z)<|EL 5 (ff p2) Z (Rb2 Z)<|?_
  obtain ⟨a, ae, Y, H⟩ := iw H
  refine fe Z (Ek Tryz.call109 Z (qx p1 o p p2 a ae Y _ _ S U) ?_)
  rintro _ _ _ - ⟨rfl, rfl, rfl⟩
  refine Em Z<|Ex Z<|Ex Z<|?_
  refine fe Z (fD (cs := (fl (Case.mk false 0 0))) Z Z Z Z (fun I => ?_))
  refine fe Z (Sa (fl a) Z .here Z ?_)
  refine Ea Z<|fb<|fc<|fa<|EL 7 (fj p3 q r) Z (Rb2 Z)<|EL 5 (ff p4) Z (Rb1 Z)<|?_
  obtain ⟨y, af, aa, H⟩ := iw H
  refine fe Z (Ek Tryz.call109 Z (qx p3 q r p4 y af aa _ _ V W) ?_)
  rintro _ _ _ - ⟨rfl, rfl, rfl⟩
  refine Em Z<|Ex Z<|Ex Z<|?_
  refine fe Z (fD (cs := (fl (Case.mk false 0 0))) Z Z Z Z (fun ai => ?_))
  refine fe Z (Sa (fl y) Z .here Z ?_)
  refine Ea Z<|fb<|fc<|?_
  refine fz (fun s d c => ∃ (E : Bool), [(0, (sv w)), (9, (Vp x)), (11, (Vp I)), (79, (.bool E))] = s ∧ K = d ∧ (.blk I 108 (fl a)) :: (.blk x 38 (ff p4)) :: G = c ∧ nb p0 a p4 E = some b) ?_ ?_
  ·refine fa<|Em Z<|Eq Z (gf Z)<|Em Z<|?_
   refine Ee Z ?_ ?_
   ·intro e
    have e := iv e
    have H := f0 (btf e) H
    refine Ez Z<|Ez Z<|Et Z<|Em Z<|Ez Z<|Ez Z<|Ez Z<|Et Z<|Em Z<|Ez Z<|Ez Z<|Et Z<|Em Z<|Ez Z<|Ez Z<|Ez Z<|Ez Z<|Ez Z<|Et Z<|Em Z<|Ez Z<|Ez Z<|?_
    exact Ez Z<|Ez Z<|Ez Z<|Et Z<|fb<|Pu2<|Pu2<|Re2<|Re2<|Re2<|Re2<|Sd<|⟨_, by exact R4, true, Z, Z, Z, H⟩
   ·intro e
    have e := ir e
    have H := ift e H
    refine Vm Z<|Vq Z (gf Z)<|Ef Z<|Em Z<|?_
    refine Ee Z ?_ ?_
    ·intro f
     have f := iv f
     have H := f0 (btf f) H
     refine Ez Z<|Ez Z<|Ez Z<|Et Z<|Em Z<|Ez Z<|Ez Z<|Et Z<|Em Z<|Ez Z<|Ez Z<|Ez Z<|Ez Z<|Ez Z<|Et Z<|Em Z<|Ez Z<|Ez Z<|Ez Z<|Ez Z<|Ez Z<|Et Z<|?_
     exact fb<|Pu2<|Pu2<|Re2<|Re2<|Re2<|Re2<|Sd<|⟨_, by exact R4, true, Z, Z, Z, H⟩
    ·intro f
     have f := ir f
     have H := ift f H
     refine VF 0 Z<|Vl (.bool a.send) Z (Rb1 Z)<|Vq Z (gf Z)<|Ef Z<|Em Z<|?_
     refine Ee Z ?_ ?_
     ·intro g
      have g := iv g
      have H := f0 (btf g) H
      refine Ez Z<|Ez Z<|Et Z<|Em Z<|Ez Z<|Ez Z<|Ez Z<|Ez Z<|Ez Z<|Et Z<|Em Z<|Ez Z<|Ez Z<|Ez Z<|Ez Z<|Ez Z<|Et Z<|fb<|Pu2<|Pu2<|Re2<|Re2<|?_
      exact Re2<|Re2<|Sd<|⟨_, by exact R4, true, Z, Z, Z, H⟩
     ·intro g
      have g := ir g
      have H := ift g H
      refine VF 0 Z<|Vl (.bool y.send) Z (Rb0 Z)<|Ef Z<|Em Z<|?_
      refine Ee Z ?_ ?_
      ·intro A
       have H := ift A H
       exact Ez Z<|Ez Z<|Ez Z<|Ez Z<|Ez Z<|Et Z<|Em Z<|Ez Z<|Ez Z<|Ez Z<|Ez Z<|Ez Z<|Et Z<|fb<|Pu2<|Pu2<|Re2<|Re2<|Re2<|Re2<|Sd<|⟨_, by exact R4, true, Z, Z, Z, H⟩
      ·intro A
       have H := f0 (btf A) H
       refine VF 1 Z<|Vl (Vi a.channel) Z (Rb1 Z)<|VF 1 Z<|Vl (Vi y.channel) Z (Rb0 Z)<|Vc Z<|Ef Z<|Em Z<|?_
       refine Ee Z ?_ ?_
       ·intro h
        have h := kT (iv (h))
        have H := f0 h H
        exact Ez Z<|Ez Z<|Ez Z<|Ez Z<|Ez Z<|Et Z<|fb<|Pu2<|Pu2<|Re2<|Re2<|Re2<|Re2<|Sd<|⟨_, by exact R4, true, Z, Z, Z, H⟩
       ·intro h
        have h := kU (ir (h))
        have H := ift h H
        refine Vm Z<|VF 1 Z<|Vl (Vi a.channel) Z (Rb1 Z)<|?_
        obtain ⟨Q, ab, H⟩ := bnd H
        refine hQ Z Z Z Z (Ek Tryz.call107 Z (lJ p0 w a.channel Q ab _ _ D) ?_)
        rintro _ _ _ - ⟨rfl, rfl, rfl⟩
        exact Vq Z (gf Z)<|Ef Z<|fb<|Pu2<|Pu2<|Re2<|Re2<|Re2<|Re2<|Sd<|⟨_, by exact R4, (!(Q)), Z, Z, Z, H⟩
  rintro _ _ _ - ⟨E, rfl, rfl, rfl, H⟩
  unfold nb at H
  refine fm Z ?_ ?_
  ·intro B
   have H := ift B H
   refine fc<|fa<|Ea Z<|fb<|fx<|?_
   obtain N := gq H
   subst b
   refine ⟨(.inl Z), [(.bool false)], ⟨(.bool false), _, Z, Z, Z⟩, ?_⟩
   exact Re0<|Re0<|Sd<|⟨Z, Z, Z⟩
  ·intro B
   have H := f0 (btf B) H
   refine ft<|fc<|fa<|Em Z<|EF 1 Z<|El (Vi a.channel) Z (Rb0 Z)<|?_
   obtain ⟨z, O, H⟩ := bnd H
   obtain ⟨al, X, R⟩ := Slr.at D O
   obtain ⟨P, rfl, ak⟩ := X
   refine Eq Z (Qi (T := fH) D O Z)<|EL 3 (fy z P) Z (Rdc.k R Z)<|?_
   refine fe Z (fD (cs := (fy (fL.mk 0 [] false) fB)) Z Z Z Z (fun aj => ?_))
   refine fe Z (Sa (fy z P) Z .here Z ?_)
   refine fb ?_
   refine fz (fun s d c => ∃ (u : Bool), [(10, (.bool u))] = s ∧ K = d ∧ G = c ∧ o6 u = some b) ?_ ?_
   ·refine fa<|EF 0 Z<|El (Vi z.capacity) Z (Rb0 Z)<|Ec Z<|Em Z<|?_
    refine Ee Z ?_ ?_
    ·intro t
     obtain ⟨t, H⟩ := It t H
     refine VF 2 Z<|Vl (.bool z.closed) Z (Rb0 Z)<|Vq Z (gf Z)<|Et Z<|Em Z<|?_
     refine Ee Z ?_ ?_
     ·intro i
      have i := iv i
      have H := f0 (btf i) H
      exact VF 2 Z<|Vl (.int .u64 p4.value) Z (Rb2 Z)<|VF 2 Z<|Vl (.int .u64 a.value) Z (Rb1 Z)<|Vc Z<|Et Z<|Ea Z<|fb<|Re0<|Re0<|Re0<|Sd<|⟨_, by exact R1, (dcd (p4.value = a.value)), Z, Z, Z, H⟩
     ·intro i
      have i := ir i
      have H := ift i H
      exact Ez Z<|Ez Z<|Ez Z<|Ez Z<|Ez Z<|Ef Z<|Ea Z<|fb<|Re0<|Re0<|Re0<|Sd<|⟨_, by exact R1, false, Z, Z, Z, H⟩
    ·intro t
     obtain ⟨t, H⟩ := If t H
     exact Ez Z<|Ez Z<|Ez Z<|Ef Z<|Em Z<|Ez Z<|Ez Z<|Ez Z<|Ez Z<|Ez Z<|Ef Z<|Ea Z<|fb<|Re0<|Re0<|Re0<|Sd<|⟨_, by exact R1, false, Z, Z, Z, H⟩
   rintro _ _ _ - ⟨u, rfl, rfl, rfl, H⟩
   unfold o6 at H
   refine fx ?_
   obtain N := gq H
   subst b
   refine ⟨(.inl Z), [(.bool u)], ⟨(.bool u), _, Z, Z, Z⟩, ?_⟩
   exact Sd ⟨Z, Z, Z⟩
theorem FN (p0 : ad1) (e : SV) (p1 : Op) (a b : SV) (p2 : Result) (p3 : Op) (c d : SV) (p4 : Result) (f : Bool) (H : tm p0 p1 p2 p3 p4 = some f) (K : Kp) (G : List Ent) (i : Slr fH K (sv e) p0) (j : Slr fW K (sv a) p1.cases) (k : Slr Ty.i64 K (sv b) p1.draws) (l : Slr fW K (sv c) p3.cases) (m : Slr Ty.i64 K (sv d) p3.draws) :
  Fc Tryz.prog 64 #[(sv e), (.agg (fj p1 a b).toArray), (.agg (ff p2).toArray), (.agg (fj p3 c d).toArray), (.agg (ff p4).toArray)] K (G) (fun v o n => v = (.bool f) ∧ K = o ∧ G = n) := by
 refine fN Tryz.func64 Z Tryz.ntmps64 Tryz.results64 Z ?_
 unfold tm at H
 refine fc<|fa<|?_
 refine fe Z (fU (cs := (fj p1 a b)) Z Z Z (fun s => ?_))
 refine fe Z (fU (cs := (ff p2)) Z Z Z (fun t => ?_))
 refine fe Z (fU (cs := (fj p3 c d)) Z Z Z (fun u => ?_))
 refine fe Z (fU (cs := (ff p4)) Z Z Z (fun w => ?_))
 refine Ea Z<|fb<|fc<|fa<|Em Z<|EL 7 (fj p1 a b) Z (Rb3 Z)<|EL 5 (ff p2) Z (Rb2 Z)<|EL 7 (fj p3 c d) Z (Rb1 Z)<|EL 5 (ff p4) Z (Rb0 Z)<|?_
 obtain ⟨x19, q, H⟩ := bnd H
 refine fe Z (Ek Tryz.call104 Z (yS p0 e p1 a b p2 p3 c d p4 x19 q _ _ i j k l m) ?_)
 rintro _ _ _ - ⟨rfl, rfl, rfl⟩
 refine Em Z ?_
 refine Ee Z ?_ ?_
 ·intro g
  have H := ift g H
  refine Ez Z<|Ez Z<|Ez Z<|Ez Z<|Ez Z<|Ez Z<|Et Z<|Ea Z<|fb<|fx<|?_
  obtain p := gq H
  subst f
  refine ⟨(.inl Z), [(.bool true)], ⟨(.bool true), _, Z, Z, Z⟩, ?_⟩
  exact Re0<|Re0<|Re0<|Re0<|Sd<|⟨Z, Z, Z⟩
 ·intro g
  have H := f0 (btf g) H
  refine Vm Z<|VL 7 (fj p3 c d) Z (Rb1 Z)<|VL 5 (ff p4) Z (Rb0 Z)<|VL 7 (fj p1 a b) Z (Rb3 Z)<|VL 5 (ff p2) Z (Rb2 Z)<|?_
  obtain ⟨h, r, H⟩ := bnd H
  refine hQ Z Z Z Z (Ek Tryz.call104 Z (yS p0 e p3 c d p4 p1 a b p2 h r _ _ i l m j k) ?_)
  rintro _ _ _ - ⟨rfl, rfl, rfl⟩
  refine Ef Z<|Ea Z<|fb<|fx<|?_
  obtain p := gq H
  subst f
  refine ⟨(.inl Z), [(.bool h)], ⟨(.bool h), _, Z, Z, Z⟩, ?_⟩
  exact Re0<|Re0<|Re0<|Re0<|Sd<|⟨Z, Z, Z⟩
theorem Ba (p0 : ad1) (z : SV) (p1 : Op) (m n : SV) (p2 : Op) (o p : SV) (y : af1) (H : pT p0 p1 p2 = some y) (K : Kp) (G : List Ent) (aK : Slr fH K (sv z) p0) (ao : Slr fW K (sv m) p1.cases) (ap : Slr Ty.i64 K (sv n) p1.draws) (aL : Slr fW K (sv o) p2.cases) (aM : Slr Ty.i64 K (sv p) p2.draws) :
  Fc Tryz.prog 86 #[(sv z), (.agg (fj p1 m n).toArray), (.agg (fj p2 o p).toArray)] K (G) (fun v e d => ∃ (al : SV), v = (sv al) ∧ (.tok 131 10 [(sv al)]) :: G = d ∧ Slr gu e (sv al) y) := by
 refine fN Tryz.func86 Z Tryz.ntmps86 Tryz.results86 Z ?_
 unfold pT at H
 refine fc<|fa<|?_
 refine fe Z (fU (cs := (fj p1 m n)) Z Z Z (fun h => ?_))
 refine fe Z (fU (cs := (fj p2 o p)) Z Z Z (fun i => ?_))
 refine Ea Z<|fb<|fc<|fa<|Ea Z<|fb<|fc<|?_
 obtain ⟨C, aZ, H⟩ := bnd H
 obtain ⟨D, a0, H⟩ := bnd H
 refine fw _ Z (Ic Mb0 (Ic Mb1 In0))<|JL 0 7 (fj p1 m n) Z (Rb1 Z)<|JL 2 7 (fj p2 o p) Z (Rb0 Z)<|?_
 refine Ao 1 Z ?_
 refine Ek Tryz.call44 Z (ln p1 m n C aZ _ _ ao ap) ?_
 rintro _ a9 _ Y ⟨I, rfl, rfl, aU⟩
 refine ⟨(Ic Mb0 (Ic Mb1 In0)), ?_⟩
 refine Ao 3 Z ?_
 have av := aL.mono Y
 have aw := aM.mono Y
 refine Ek Tryz.call44 Z (ln p2 o p D a0 _ _ av aw) ?_
 rintro _ ba _ M ⟨J, rfl, rfl, aV⟩
 refine ⟨(Ic Mb0 (Ic Mb1 In0)), ?_⟩
 refine Ja 4 Z<|Ja 5 Z<|Ad<|?_
 refine fz (fun g e d => ∃ (L : SV) (ak : af1), [(7, (sv L))] = g ∧ (.tok 131 10 [(sv L)]) :: G = d ∧ sh ak = some y ∧ Slr gu e (sv L) ak) ?_ ?_
 ·refine fc<|fa<|Ea Z<|fb<|fA<|?_
  refine fY (fun aA g e d => ∃ (O : SV) (aa : af1) (c : Int), [(0, (sv z)), (4, (Vp h)), (5, (Vp i)), (7, (sv O)), (8, (sv I)), (9, (sv J)), (10, (Vi c))] = g ∧ (.blk i 51 (fj p2 o p)) :: (.blk h 51 (fj p1 m n)) :: (.tok 131 10 [(sv O)]) :: G = d ∧ lp2 (sn p0 C D p2 p1) aA aa c = some y ∧ Slr gu e (sv O) aa) BIG ?_ ?_
  ·exact Shift.nilTok1 131 10<|Pu2<|Pu2<|Sd<|⟨_, by exact R7, fB, ([] : af1), 0, Z, Z, H, (Slr.nil gu _)⟩
  rintro aA _ a5 _ F ⟨O, aa, c, rfl, rfl, H, aq⟩
  obtain ⟨bf, N, rfl, aJ, H⟩ := jC H
  unfold sn at H
  refine fc<|fc<|fa<|Em Z<|Em Z<|?_
  have ah := (aU.mono M).mono F
  refine Eq Z (ge (T := fW) ah Z Z)<|Ec Z<|fb<|?_
  refine fm Z ?_ ?_
  ·intro U
   obtain ⟨U, H⟩ := It U H
   refine ft ?_
   refine fz (fun g e d => ∃ (ab : SV) (ae : af1), [(0, (sv z)), (4, (Vp h)), (5, (Vp i)), (7, (sv ab)), (8, (sv I)), (9, (sv J)), (10, (Vi c))] = g ∧ (.blk i 51 (fj p2 o p)) :: (.blk h 51 (fj p1 m n)) :: (.tok 131 10 [(sv ab)]) :: G = d ∧ si p0 C D c p2 p1 N ae = some y ∧ Slr gu e (sv ab) ae) ?_ ?_
   ·refine fA<|fc<|fa<|Ea Z<|fb<|fA<|?_
    refine fY (fun aB g e d => ∃ (j : SV) (A : af1) (f : Int), [(0, (sv z)), (4, (Vp h)), (5, (Vp i)), (7, (sv j)), (8, (sv I)), (9, (sv J)), (10, (Vi c)), (11, (Vi f))] = g ∧ (.blk i 51 (fj p2 o p)) :: (.blk h 51 (fj p1 m n)) :: (.tok 131 10 [(sv j)]) :: G = d ∧ lp2 (sk p0 C D c p2 p1 N) aB A f = some y ∧ Slr gu e (sv j) A) BIG ?_ ?_
    ·exact Pu2<|Pu2<|Pu2<|Sd<|⟨_, by exact R8, O, aa, 0, Z, Z, H, aq⟩
    rintro aB _ Q _ B ⟨j, A, f, rfl, rfl, H, ai⟩
    obtain ⟨bg, ad, rfl, an, H⟩ := jC H
    unfold sk at H
    refine fc<|fc<|fa<|Em Z<|Em Z<|?_
    have aj := (aV.mono F).mono B
    refine Eq Z (ge (T := fW) aj Z Z)<|Ec Z<|fb<|?_
    refine fm Z ?_ ?_
    ·intro V
     obtain ⟨V, H⟩ := It V H
     refine ft<|fc<|fA<|fc<|fa<|Ea Z<|Ea Z<|fb<|?_
     refine fz (fun g e d => ∃ (a : Int), [(0, (sv z)), (4, (Vp h)), (5, (Vp i)), (7, (sv j)), (8, (sv I)), (9, (sv J)), (10, (Vi c)), (11, (Vi f)), (12, (Vi a)), (13, (Vi (-1)))] = g ∧ Q = e ∧ (.blk i 51 (fj p2 o p)) :: (.blk h 51 (fj p1 m n)) :: (.tok 131 10 [(sv j)]) :: G = d ∧ mC p0 A C D c f p2 p1 N ad a = some y) ?_ ?_
     ·refine fc<|fa<|EF 0 Z<|El (Vi p1.kind) Z (Rb1 Z)<|Ec Z<|fb<|?_
      refine fm Z ?_ ?_
      ·intro W
       obtain ⟨W, H⟩ := It W H
       exact fa<|Em Z<|Ea Z<|fb<|Pu2<|Pu2<|Pu2<|Sd<|⟨_, by exact R10, c, Z, Z, Z, H⟩
      ·intro W
       obtain ⟨W, H⟩ := If W H
       exact ft<|Pu2<|Pu2<|Pu2<|Sd<|⟨_, by exact R10, (-1), Z, Z, Z, H⟩
     rintro _ _ _ - ⟨a, rfl, rfl, rfl, H⟩
     unfold mC at H
     refine fz (fun g e d => ∃ (b : Int), [(0, (sv z)), (4, (Vp h)), (5, (Vp i)), (7, (sv j)), (8, (sv I)), (9, (sv J)), (10, (Vi c)), (11, (Vi f)), (12, (Vi a)), (13, (Vi b))] = g ∧ Q = e ∧ (.blk i 51 (fj p2 o p)) :: (.blk h 51 (fj p1 m n)) :: (.tok 131 10 [(sv j)]) :: G = d ∧ mB p0 A C D c f a p2 p1 N ad b = some y) ?_ ?_
     ·refine fc<|fa<|EF 0 Z<|El (Vi p2.kind) Z (Rb0 Z)<|Ec Z<|fb<|?_
      refine fm Z ?_ ?_
      ·intro X
       obtain ⟨X, H⟩ := It X H
       exact fa<|Em Z<|Ea Z<|fb<|Pu2<|Pu2<|Pu2<|Sd<|⟨_, by exact R10, f, Z, Z, Z, H⟩
      ·intro X
       obtain ⟨X, H⟩ := If X H
       exact ft<|Pu2<|Pu2<|Pu2<|Sd<|⟨_, by exact R10, (-1), Z, Z, Z, H⟩
     rintro _ _ _ - ⟨b, rfl, rfl, rfl, H⟩
     unfold mB at H
     refine fz (fun g e d => ∃ (R S : Nat) (ac : Int), [(0, (sv z)), (4, (Vp h)), (5, (Vp i)), (7, (sv j)), (8, (sv I)), (9, (sv J)), (10, (Vi c)), (11, (Vi f)), (12, (Vi a)), (13, (Vi b)), (14, (Vp R)), (15, (Vp S))] = g ∧ Q = e ∧ (.blk S 38 (ff (Result.mk 2 b ac true 0))) :: (.blk R 38 (ff (Result.mk 1 a 0 false 0))) :: (.blk i 51 (fj p2 o p)) :: (.blk h 51 (fj p1 m n)) :: (.tok 131 10 [(sv j)]) :: G = d ∧ sj p0 A C D c f a b p2 p1 N ad ac = some y) ?_ ?_
     ·obtain ⟨P, ax, H⟩ := bnd H
      refine fw _ Z (Ic Mb0 (Ic Mb1 (Ic Mb2 In0)))<|Jm 0 Z<|Jq 1 Z (fG (cs := (ff (Result.mk 1 a 0 false 0))) Z Z Z Z Z Z)<|Jm 2 Z<|Jm 3 Z<|Jm 4 Z<|?_
      have ar := ah.mono B
      obtain ⟨_, rfl, aG⟩ := Slr.at ar ax
      refine Jq 5 Z (Qi (T := fW) ar ax Z)<|JF 6 2 Z<|Jl 7 (.int .u64 P.value) Z (Rdc.k aG Z)<|Jq 8 Z (fG (cs := (ff (Result.mk 2 b P.value true 0))) Z Z Z Z Z Z)<|?_
      refine gW 9 10 (by kernel_rfl) ?_ ?_
      ·refine id (Jy Z ?_)
       refine fD (cs := (ff (Result.mk 0 0 0 false 0))) Z Z Z Z (fun aC => ⟨(Ic Mb1 (Ic Mb2 (Ic Mb3 In0))), ?_⟩)
       refine Ao 10 Z ?_
       refine fD (cs := (ff (Result.mk 0 0 0 false 0))) Z Z Z Z (fun aD => ⟨(Ic Mb2 (Ic Mb3 (Ic Mb4 In0))), ?_⟩)
       refine Ao 11 Z ?_
       refine Sa (ff (Result.mk 1 a 0 false 0)) Z (.there .here) Z ⟨(Ic Mb2 (Ic Mb3 (Ic Mb4 In0))), ?_⟩
       refine Ao 12 Z ?_
       refine Sa (ff (Result.mk 2 b P.value true 0)) Z .here Z ⟨(Ic Mb2 (Ic Mb3 (Ic Mb4 In0))), ?_⟩
       exact Ad<|Pu4<|Pu4<|Pu4<|Pu4<|Pu4<|Sd<|⟨_, by exact R12, aC, aD, P.value, Z, Z, Z, H⟩
      ·refine id (Jy Z ?_)
       refine fD (cs := (ff (Result.mk 0 0 0 false 0))) Z Z Z Z (fun aE => ⟨(Ic Mb1 (Ic Mb2 (Ic Mb3 In0))), ?_⟩)
       refine Ao 9 Z ?_
       refine fD (cs := (ff (Result.mk 0 0 0 false 0))) Z Z Z Z (fun aF => ⟨(Ic Mb2 (Ic Mb3 (Ic Mb4 In0))), ?_⟩)
       refine Ao 11 Z ?_
       refine Sa (ff (Result.mk 1 a 0 false 0)) Z .here Z ⟨(Ic Mb2 (Ic Mb3 (Ic Mb4 In0))), ?_⟩
       refine Ao 12 Z ?_
       refine Sa (ff (Result.mk 2 b P.value true 0)) Z (.there .here) Z ⟨(Ic Mb2 (Ic Mb3 (Ic Mb4 In0))), ?_⟩
       exact Ad<|Pu4<|Pu4<|Pu4<|Pu3<|Pu4<|Sd<|⟨_, by exact R12, aF, aE, P.value, Z, Z, Z, H⟩
     rintro _ _ _ - ⟨R, S, ac, rfl, rfl, rfl, H⟩
     unfold sj at H
     refine fz (fun g e d => ∃ (r s : Int) (w : Bool) (t u : Int) (x : Bool), [(0, (sv z)), (4, (Vp h)), (5, (Vp i)), (7, (sv j)), (8, (sv I)), (9, (sv J)), (10, (Vi c)), (11, (Vi f)), (14, (Vp R)), (15, (Vp S))] = g ∧ Q = e ∧ (.blk S 38 (ff (Result.mk r b s w 0))) :: (.blk R 38 (ff (Result.mk t a u x 0))) :: (.blk i 51 (fj p2 o p)) :: (.blk h 51 (fj p1 m n)) :: (.tok 131 10 [(sv j)]) :: G = d ∧ o8 p0 A C D c f b a p2 p1 N ad r s w t u x = some y) ?_ ?_
     ·refine fc<|fa<|Em Z<|Em Z<|?_
      obtain ⟨a2, ay, H⟩ := bnd H
      have au := ah.mono B
      obtain ⟨_, rfl, aH⟩ := Slr.at au ay
      refine Eq Z (Qi (T := fW) au ay Z)<|EF 0 Z<|El (.bool a2.send) Z (Rdc.k aH Z)<|Eq Z (gf Z)<|fb<|?_
      refine fm Z ?_ ?_
      ·intro E
       have E := iv E
       have H := f0 (btf E) H
       refine fa<|Em Z<|Em Z<|Em Z<|?_
       obtain ⟨af, az, H⟩ := bnd H
       obtain ⟨_, rfl, aI⟩ := Slr.at aj az
       refine Eq Z (Qi (T := fW) aj az Z)<|EF 2 Z<|El (.int .u64 af.value) Z (Rdc.k aI Z)<|Eq Z (fG (cs := (ff (Result.mk 2 a af.value true 0))) Z Z Z Z Z Z)<|Em Z<|Eq Z (fG (cs := (ff (Result.mk 1 b 0 false 0))) Z Z Z Z Z Z)<|?_
       refine fe Z (Sa (ff (Result.mk 2 a af.value true 0)) Z (.there .here) Z ?_)
       refine fe Z (Sa (ff (Result.mk 1 b 0 false 0)) Z .here Z ?_)
       exact fb<|Pu4<|Pu4<|Pu4<|Pu4<|Pu4<|Sd<|⟨_, by exact R10, 1, 0, false, 2, af.value, true, Z, Z, Z, H⟩
      ·intro E
       have E := ir E
       have H := ift E H
       exact ft<|Pu4<|Pu4<|Pu4<|Pu4<|Pu4<|Sd<|⟨_, by exact R10, 2, ac, true, 1, 0, false, Z, Z, Z, H⟩
     rintro _ _ _ - ⟨r, s, w, t, u, x, rfl, rfl, rfl, H⟩
     unfold o8 at H
     refine fc<|fa<|Em Z<|EL 7 (fj p1 m n) Z (Rb3 Z)<|EL 5 (ff (Result.mk t a u x 0)) Z (Rb1 Z)<|EL 7 (fj p2 o p) Z (Rb2 Z)<|EL 5 (ff (Result.mk r b s w 0)) Z (Rb0 Z)<|?_
     obtain ⟨a3, aX, H⟩ := bnd H
     have aO := (((aK.mono Y).mono M).mono F).mono B
     have aP := (((ao.mono Y).mono M).mono F).mono B
     have aQ := (((ap.mono Y).mono M).mono F).mono B
     have aR := ((av.mono M).mono F).mono B
     have aS := ((aw.mono M).mono F).mono B
     refine fe Z (Ek Tryz.call64 Z (FN p0 z p1 m n (Result.mk t a u x 0) p2 o p (Result.mk r b s w 0) a3 aX _ _ aO aP aQ aR aS) ?_)
     rintro _ _ _ - ⟨rfl, rfl, rfl⟩
     refine fb ?_
     refine fm Z ?_ ?_
     ·intro ag
      have H := ift ag H
      refine fa<|Em Z<|EL 5 (ff (Result.mk t a u x 0)) Z (Rb1 Z)<|EL 5 (ff (Result.mk r b s w 0)) Z (Rb0 Z)<|Eq Z (kC (cs := (gV (gp.mk (Result.mk t a u x 0) (Result.mk r b s w 0)))) Z Z Z Z Z Z)<|?_
      have am : RowR gu Q [(gV (gp.mk (Result.mk t a u x 0) (Result.mk r b s w 0)))] [(gp.mk (Result.mk t a u x 0) (Result.mk r b s w 0))] := RowR.cons Z (RowR.nil)
      refine fe Z (gh (T := gu) (rows := [(gV (gp.mk (Result.mk t a u x 0) (Result.mk r b s w 0)))]) (l := [(gp.mk (Result.mk t a u x 0) (Result.mk r b s w 0))]) Z Z Z am Z Z Z Z Z Z Z Z (fun bh => ?_))
      obtain ⟨a4, aY, H⟩ := bnd H
      refine fe Z (f8 (T := gu) (bytes := 80) (q := 0) Z Z Z ai Mb5 Z (SrcT.row Mb0 am Z) aY Z Z Z Z Z Z Z Z (fun a1 a6 bc aT => ⟨_, (.there (.there (.there (.there (.there .here))))), ?_⟩))
      refine Ow.shift (Re0 (Sd ?_))
      exact Ea Z<|fb<|fa<|Em Z<|Er (wI (f + 1)) Z<|Ea Z<|fb<|Pu4<|Pu4<|Pu4<|Re3<|Re3<|Sd<|⟨_, by exact R8, _, Nat.lt_succ_self _, a1, a4, (wI (f + 1)), Z, Z, (an ▸ H), aT⟩
     ·intro ag
      have H := f0 (btf ag) H
      exact ft<|fa<|Em Z<|Er (wI (f + 1)) Z<|Ea Z<|fb<|Pu4<|Pu4<|Pu4<|Re3<|Re3<|Sd<|⟨_, by exact R8, _, Nat.lt_succ_self _, j, A, (wI (f + 1)), Z, Z, (an ▸ H), ai⟩
    ·intro V
     obtain ⟨V, H⟩ := If V H
     exact f5<|Pu2<|Pu2<|Pu2<|Sd<|⟨_, by exact R7, j, A, Z, Z, H, ai⟩
   rintro _ a7 _ bd ⟨ab, ae, rfl, rfl, H, aN⟩
   unfold si at H
   exact fa<|Em Z<|Er (wI (c + 1)) Z<|Ea Z<|fb<|Pu2<|Pu2<|Pu2<|Sd<|⟨_, by exact R7, _, Nat.lt_succ_self _, ab, ae, (wI (c + 1)), Z, Z, (aJ ▸ H), aN⟩
  ·intro U
   obtain ⟨U, H⟩ := If U H
   exact f5<|Pu2<|Re1<|Re1<|Sd<|⟨_, by exact R1, O, aa, Z, Z, H, aq⟩
 rintro _ a8 _ be ⟨L, ak, rfl, rfl, H, aW⟩
 unfold sh at H
 refine fc<|fa<|Em Z<|Ea Z<|fb<|fx<|?_
 obtain bb := gq H
 subst y
 refine ⟨(.inl Z), [(sv L)], ⟨(sv L), _, Z, Z, Z⟩, ?_⟩
 exact Sd ⟨L, Z, Z, aW⟩
theorem D4 (p0 : ad1) (e : SV) (p1 : Op) (a b : SV) (p2 : Op) (c d : SV) (f : Bool) (H : so p0 p1 p2 = some f) (K : Kp) (G : List Ent) (h : Slr fH K (sv e) p0) (i : Slr fW K (sv a) p1.cases) (j : Slr Ty.i64 K (sv b) p1.draws) (k : Slr fW K (sv c) p2.cases) (l : Slr Ty.i64 K (sv d) p2.draws) :
  Fc Tryz.prog 108 #[(sv e), (.agg (fj p1 a b).toArray), (.agg (fj p2 c d).toArray)] K (G) (fun v o g => v = (.bool f) ∧ G = g) := by
 refine fN Tryz.func108 Z Tryz.ntmps108 Tryz.results108 Z ?_
 unfold so at H
 refine fc<|fa<|?_
 refine fe Z (fU (cs := (fj p1 a b)) Z Z Z (fun r => ?_))
 refine fe Z (fU (cs := (fj p2 c d)) Z Z Z (fun q => ?_))
 refine Ea Z<|fb<|fc<|fa<|Em Z<|EL 7 (fj p1 a b) Z (Rb1 Z)<|EL 7 (fj p2 c d) Z (Rb0 Z)<|?_
 obtain ⟨x11, n, H⟩ := bnd H
 refine fe Z (Ek Tryz.call86 Z (Ba p0 e p1 a b p2 c d x11 n _ _ h i j k l) ?_)
 rintro _ p _ t ⟨u, rfl, rfl, m⟩
 refine Eq Z (ge (T := gu) m Z Z)<|Ec Z<|Ea Z<|fb<|fx<|?_
 obtain s := gq H
 subst f
 refine ⟨(.inl Z), [(.bool (dcd ((x11.length : Int) > 0)))], ⟨(.bool (dcd ((x11.length : Int) > 0))), _, Z, Z, Z⟩, ?_⟩
 exact Re0<|Re0<|Re0<|Sd<|⟨Z, Z⟩
theorem DZ (p0 : ad8) (s : SV) (n : ae5) (H : r5 p0 = some n) (K : Kp) (G : List Ent) (F : Slr f4 K (sv s) p0) :
  Fc Tryz.prog 34 #[(sv s)] K (G) (fun v i h => ∃ (t : SV), v = (sv t) ∧ (.tok 91 2 [(sv t)]) :: G = h ∧ Slr gy i (sv t) n) := by
 refine fN Tryz.func34 Z Tryz.ntmps34 Tryz.results34 Z ?_
 unfold r5 at H
 refine fc<|fa<|Ea Z<|fb<|fc<|fa<|Ea Z<|fb<|?_
 refine fz (fun o i h => ∃ (d : SV) (r : ae5), [(3, (sv d))] = o ∧ (.tok 91 2 [(sv d)]) :: G = h ∧ ww r = some n ∧ Slr gy i (sv d) r) ?_ ?_
 ·refine fc<|fa<|Ea Z<|fb<|fA<|?_
  refine fY (fun n273 o i h => ∃ (e : SV) (m : ae5) (c : Int), [(0, (sv s)), (3, (sv e)), (4, (Vi c))] = o ∧ (.tok 91 2 [(sv e)]) :: G = h ∧ lp2 (r4 p0) n273 m c = some n ∧ Slr gy i (sv e) m) BIG ?_ ?_
  ·exact Shift.nilTok1 91 2<|Sd<|⟨_, by exact R3, fB, ([] : ae5), 0, Z, Z, H, (Slr.nil gy _)⟩
  rintro n273 _ A _ B ⟨e, m, c, rfl, rfl, H, p⟩
  obtain ⟨W, V, rfl, w, H⟩ := jC H
  unfold r4 at H
  refine fc<|fc<|fa<|Em Z<|Em Z<|?_
  have b := F.mono B
  refine Eq Z (ge (T := f4) b Z Z)<|Ec Z<|fb<|?_
  refine fm Z ?_ ?_
  ·intro j
   obtain ⟨j, H⟩ := It j H
   refine ft<|fc<|fA<|fc<|fa<|Em Z<|Em Z<|?_
   obtain ⟨N, x, H⟩ := bnd H
   obtain ⟨_, rfl, C⟩ := Slr.at b x
   refine Eq Z (Qi (T := f4) b x Z)<|EF 2 Z<|El (.bool N.ret) Z (Rdc.k C Z)<|Eq Z (gf Z)<|fb<|?_
   refine fm Z ?_ ?_
   ·intro a
    have a := iv a
    have H := f0 (btf a) H
    obtain ⟨f, y, H⟩ := bnd H
    obtain ⟨g, z, H⟩ := bnd H
    obtain ⟨O, L, H⟩ := bnd H
    refine fw _ Z In0<|Jm 0 Z<|Jm 1 Z<|Jm 2 Z<|?_
    obtain ⟨_, rfl, D⟩ := Slr.at b y
    refine Jq 3 Z (Qi (T := f4) b y Z)<|JF 4 0 Z<|Jl 5 (Vi f.thread) Z (Rdc.k D Z)<|Jm 6 Z<|Jm 7 Z<|?_
    obtain ⟨_, rfl, E⟩ := Slr.at b z
    refine Jq 8 Z (Qi (T := f4) b z Z)<|JF 9 1 Z<|Jl 10 (Vi g.op) Z (Rdc.k E Z)<|Jq 11 Z (kC (cs := (gv (A2Int.mk f.thread g.op))) Z Z Z Z Z Z)<|?_
    refine Ao 12 Z ?_
    have u : RowR gy A [(gv (A2Int.mk f.thread g.op))] [(A2Int.mk f.thread g.op)] := RowR.cons Z (RowR.nil)
    refine gh (T := gy) (rows := [(gv (A2Int.mk f.thread g.op))]) (l := [(A2Int.mk f.thread g.op)]) Z Z Z u Z Z Z Z Z Z Z Z (fun X => ⟨In0, ?_⟩)
    refine Ao 13 Z ?_
    refine f8 (T := gy) (bytes := 16) (q := 0) Z Z Z p Mb1 Z (SrcT.row Mb0 u Z) L Z Z Z Z Z Z Z Z (fun M P S J => ⟨_, (.there .here), ⟨In0, ?_⟩⟩)
    refine Aw.shift (Re0 (Sd ⟨In0, ?_⟩))
    exact Ja 14 Z<|Ad<|fa<|Em Z<|Er (wI (c + 1)) Z<|Ea Z<|fb<|Sd<|⟨_, by exact R3, _, Nat.lt_succ_self _, M, O, (wI (c + 1)), Z, Z, (w ▸ H), J⟩
   ·intro a
    have a := ir a
    have H := ift a H
    exact ft<|fa<|Em Z<|Er (wI (c + 1)) Z<|Ea Z<|fb<|Sd<|⟨_, by exact R3, _, Nat.lt_succ_self _, e, m, (wI (c + 1)), Z, Z, (w ▸ H), p⟩
  ·intro j
   obtain ⟨j, H⟩ := If j H
   exact f5<|Sd<|⟨_, by exact R1, e, m, Z, Z, H, p⟩
 rintro _ Q _ U ⟨d, r, rfl, rfl, H, I⟩
 unfold ww at H
 refine fc<|fa<|Em Z<|Ea Z<|fb<|fx<|?_
 obtain R := gq H
 subst n
 refine ⟨(.inl Z), [(sv d)], ⟨(sv d), _, Z, Z, Z⟩, ?_⟩
 exact Sd ⟨d, Z, Z, I⟩
theorem xG (p0 : ad8) (j : SV) (p1 p2 : Int) (p3 : Bool) (d : Int) (H : pP p0 p1 p2 p3 = some d) (K : Kp) (G : List Ent) (c : Slr f4 K (sv j) p0) :
  Fc Tryz.prog 65 #[(sv j), (Vi p1), (Vi p2), (.bool p3)] K (G) (fun v e b => v = (Vi d) ∧ G = b) := by
 refine fN Tryz.func65 Z Tryz.ntmps65 Tryz.results65 Z ?_
 unfold pP at H
 refine fc<|fa<|Ea Z<|fb<|?_
 refine fz (fun f e b => [] = f ∧ G = b ∧ wx = some d) ?_ ?_
 ·refine fc<|fa<|Ea Z<|fb<|fA<|?_
  refine fY (fun n157 f e b => ∃ (a : Int), [(0, (sv j)), (1, (Vi p1)), (2, (Vi p2)), (3, (.bool p3)), (9, (Vi a))] = f ∧ K = e ∧ G = b ∧ lp1 (r6 p0 p1 p2 p3) n157 a = some d) BIG ?_ ?_
  ·exact Sd ⟨_, by exact R5, 0, Z, Z, Z, H⟩
  rintro n157 _ _ _ - ⟨a, rfl, rfl, rfl, H⟩
  obtain ⟨C, x, rfl, w, H⟩ := lr H
  unfold r6 at H
  refine fc<|fc<|fa<|Em Z<|Em Z<|Eq Z (ge (T := f4) c Z Z)<|Ec Z<|fb<|?_
  refine fm Z ?_ ?_
  ·intro g
   obtain ⟨g, H⟩ := It g H
   refine ft<|fc<|fA<|?_
   refine fz (fun f e b => ∃ (m : Bool), [(0, (sv j)), (1, (Vi p1)), (2, (Vi p2)), (3, (.bool p3)), (9, (Vi a)), (40, (.bool m))] = f ∧ K = e ∧ G = b ∧ oQ p0 p1 p2 p3 a x m = some d) ?_ ?_
   ·refine fa<|Em Z<|Em Z<|?_
    obtain ⟨y, n, H⟩ := bnd H
    obtain ⟨_, rfl, s⟩ := Slr.at c n
    refine Eq Z (Qi (T := f4) c n Z)<|EF 0 Z<|El (Vi y.thread) Z (Rdc.k s Z)<|Em Z<|Ec Z<|Em Z<|?_
    refine Ee Z ?_ ?_
    ·intro h
     obtain ⟨h, H⟩ := It h H
     refine Vm Z<|Vm Z<|?_
     obtain ⟨z, o, H⟩ := bnd H
     obtain ⟨_, rfl, t⟩ := Slr.at c o
     refine Vq Z (Qi (T := f4) c o Z)<|VF 1 Z<|Vl (Vi z.op) Z (Rdc.k t Z)<|Vm Z<|Vc Z<|Et Z<|Em Z<|?_
     refine Ee Z ?_ ?_
     ·intro i
      obtain ⟨i, H⟩ := It i H
      refine Vm Z<|Vm Z<|?_
      obtain ⟨q, p, H⟩ := bnd H
      obtain ⟨_, rfl, u⟩ := Slr.at c p
      exact Vq Z (Qi (T := f4) c p Z)<|VF 2 Z<|Vl (.bool q.ret) Z (Rdc.k u Z)<|Vm Z<|Vq Z (Ak Z Z Z)<|Et Z<|fb<|Sd<|⟨_, by exact R6, (q.ret == p3), Z, Z, Z, H⟩
     ·intro i
      obtain ⟨i, H⟩ := If i H
      exact Ez Z<|Ez Z<|Ez Z<|Ez Z<|Ez Z<|Ez Z<|Ez Z<|Ef Z<|fb<|Sd<|⟨_, by exact R6, false, Z, Z, Z, H⟩
    ·intro h
     obtain ⟨h, H⟩ := If h H
     exact Ez Z<|Ez Z<|Ez Z<|Ez Z<|Ez Z<|Ez Z<|Ez Z<|Ef Z<|Em Z<|Ez Z<|Ez Z<|Ez Z<|Ez Z<|Ez Z<|Ez Z<|Ez Z<|Ef Z<|fb<|Sd<|⟨_, by exact R6, false, Z, Z, Z, H⟩
   rintro _ _ _ - ⟨m, rfl, rfl, rfl, H⟩
   unfold oQ at H
   refine fm Z ?_ ?_
   ·intro l
    have H := ift l H
    refine fc<|fa<|Em Z<|Ea Z<|fb<|fx<|?_
    obtain r := gq H
    subst d
    refine ⟨(.inl Z), [(Vi a)], ⟨(Vi a), _, Z, Z, Z⟩, ?_⟩
    exact Sd ⟨Z, Z⟩
   ·intro l
    have H := f0 (btf l) H
    exact ft<|fa<|Em Z<|Er (wI (a + 1)) Z<|Ea Z<|fb<|Sd<|⟨_, by exact R5, _, Nat.lt_succ_self _, (wI (a + 1)), Z, Z, Z, (w ▸ H)⟩
  ·intro g
   obtain ⟨g, H⟩ := If g H
   exact f5<|Sd<|⟨[], trivial, Z, Z, H⟩
 rintro _ A _ B ⟨rfl, rfl, H⟩
 unfold wx at H
 refine fc<|fa<|Ea Z<|fb<|fx<|?_
 obtain r := gq H
 subst d
 refine ⟨(.inl Z), [(Vi (-1))], ⟨(Vi (-1)), _, Z, Z, Z⟩, ?_⟩
 exact Sd ⟨Z, Z⟩
theorem y2 (p0 : ad8) (e : SV) (p1 p2 : Int) (c : Result) (d : Int) (H : r7 p0 p1 p2 = some (c, d)) (K : Kp) (G : List Ent) (f : Slr f4 K (sv e) p0) :
  Fc Tryz.prog 33 #[(sv e), (Vi p1), (Vi p2)] K (G) (fun v p i => v = (.tuple #[(.agg (ff c).toArray), (Vi d)]) ∧ G = i) := by
 refine fN Tryz.func33 Z Tryz.ntmps33 Tryz.results33 Z ?_
 unfold r7 at H
 refine fc<|fa<|?_
 refine fe Z (fD (cs := (ff (Result.mk 0 0 0 false 0))) Z Z Z Z (fun r => ?_))
 refine Ea Z<|fb<|fc<|fa<|Em Z<|Em Z<|Em Z<|?_
 obtain ⟨x14, o, H⟩ := bnd H
 refine fe Z (Ek Tryz.call65 Z (xG p0 e p1 p2 true x14 o _ _ f) ?_)
 rintro _ q _ m ⟨rfl, rfl⟩
 refine Ea Z<|fb<|fc<|fc<|fa<|Em Z<|Ec Z<|fb<|?_
 refine fm Z ?_ ?_
 ·intro a
  obtain ⟨a, H⟩ := It a H
  refine fc<|fa<|Eq Z (fG (cs := (ff (Result.mk 0 0 0 false 0))) Z Z Z Z Z Z)<|?_
  refine fe Z (Sa (ff (Result.mk 0 0 0 false 0)) Z .here Z ?_)
  refine Ea Z<|fb<|fx<|?_
  obtain ⟨j, l⟩ := ic H
  subst c d
  refine ⟨(.inl Z), [(.agg (ff (Result.mk 0 0 0 false 0)).toArray), (Vi (-1))], ⟨(.agg (ff (Result.mk 0 0 0 false 0)).toArray), _, Z, ⟨_, 5, (ff (Result.mk 0 0 0 false 0)), Z, Z, Z, Z, ⟨Z, Rb0 Z⟩, Z⟩, ⟨(Vi (-1)), _, Z, Z, Z⟩⟩, ?_⟩
  exact Re0<|Sd<|⟨Z, Z⟩
 ·intro a
  obtain ⟨a, H⟩ := If a H
  refine ft<|fc<|fa<|Em Z<|Em Z<|?_
  obtain ⟨b, h, H⟩ := bnd H
  have g := f.mono m
  obtain ⟨_, rfl, n⟩ := Slr.at g h
  refine Eq Z (Qi (T := f4) g h Z)<|EF 3 Z<|EL 5 (ff b.result) Z (Rdc.k n Z)<|Em Z<|?_
  refine fe Z (Sa (ff b.result) Z .here Z ?_)
  refine Ea Z<|fb<|fx<|?_
  obtain ⟨j, l⟩ := ic H
  subst c d
  refine ⟨(.inl Z), [(.agg (ff b.result).toArray), (Vi x14)], ⟨(.agg (ff b.result).toArray), _, Z, ⟨_, 5, (ff b.result), Z, Z, Z, Z, ⟨Z, Rb0 Z⟩, Z⟩, ⟨(Vi x14), _, Z, Z, Z⟩⟩, ?_⟩
  exact Re0<|Sd<|⟨Z, Z⟩
theorem D1 (p0 : ad8) (d : SV) (p1 p2 : A2Int) (e : Bool) (H : sa p0 p1 p2 = some e) (K : Kp) (G : List Ent) (h : Slr f4 K (sv d) p0) :
  Fc Tryz.prog 35 #[(sv d), (.agg (gv p1).toArray), (.agg (gv p2).toArray)] K (G) (fun v g f => v = (.bool e) ∧ G = f) := by
 refine fN Tryz.func35 Z Tryz.ntmps35 Tryz.results35 Z ?_
 unfold sa at H
 refine fc<|fa<|?_
 refine fe Z (fU (cs := (gv p1)) Z Z Z (fun t => ?_))
 refine fe Z (fU (cs := (gv p2)) Z Z Z (fun u => ?_))
 refine Ea Z<|fb<|fc<|?_
 obtain ⟨i, p, H⟩ := bnd H
 obtain ⟨j, r, H⟩ := bnd H
 refine fw _ Z (Ic Mb0 (Ic Mb1 In0))<|Jm 0 Z<|Jq 1 Z (gA (q := 0) (m := 0) Z Z Z Z Z (by decide) Z (by decide))<|Jl 2 (Vi p1.x0) Z (Rb1 Z)<|Jq 3 Z (gA (q := 1) (m := 1) Z Z Z Z Z (by decide) Z (by decide))<|Jl 4 (Vi p1.x1) Z (Rb1 Z)<|Jm 6 Z<|Jq 7 Z (gA (q := 0) (m := 0) Z Z Z Z Z (by decide) Z (by decide))<|Jl 8 (Vi p2.x0) Z (Rb0 Z)<|Jq 9 Z (gA (q := 1) (m := 1) Z Z Z Z Z (by decide) Z (by decide))<|Jl 10 (Vi p2.x1) Z (Rb0 Z)<|?_
 refine Ao 5 Z ?_
 refine Ek Tryz.call65 Z (xG p0 d p1.x0 p1.x1 true i p _ _ h) ?_
 rintro _ s _ n ⟨rfl, rfl⟩
 refine ⟨(Ic Mb0 (Ic Mb1 In0)), ?_⟩
 refine Ao 11 Z ?_
 have o := h.mono n
 refine Ek Tryz.call65 Z (xG p0 d p2.x0 p2.x1 false j r _ _ o) ?_
 rintro _ k _ x ⟨rfl, rfl⟩
 refine ⟨(Ic Mb0 (Ic Mb1 In0)), ?_⟩
 refine Ja 12 Z<|Ja 13 Z<|Ad<|?_
 refine fz (fun l g f => ∃ (c : Bool), [(6, (.bool c))] = l ∧ k = g ∧ G = f ∧ oR c = some e) ?_ ?_
 ·refine fa<|Em Z<|Ec Z<|Em Z<|?_
  refine Ee Z ?_ ?_
  ·intro a
   obtain ⟨a, H⟩ := It a H
   refine Vm Z<|Vc Z<|Et Z<|Em Z<|?_
   refine Ee Z ?_ ?_
   ·intro b
    obtain ⟨b, H⟩ := It b H
    exact Vm Z<|Vm Z<|Vc Z<|Et Z<|Ea Z<|fb<|Re0<|Re0<|Sd<|⟨_, by exact R1, (dcd (i < j)), Z, Z, Z, H⟩
   ·intro b
    obtain ⟨b, H⟩ := If b H
    exact Ez Z<|Ez Z<|Ez Z<|Ef Z<|Ea Z<|fb<|Re0<|Re0<|Sd<|⟨_, by exact R1, false, Z, Z, Z, H⟩
  ·intro a
   obtain ⟨a, H⟩ := If a H
   exact Ez Z<|Ez Z<|Ef Z<|Em Z<|Ez Z<|Ez Z<|Ez Z<|Ef Z<|Ea Z<|fb<|Re0<|Re0<|Sd<|⟨_, by exact R1, false, Z, Z, Z, H⟩
 rintro _ _ _ - ⟨c, rfl, rfl, rfl, H⟩
 unfold oR at H
 refine fx ?_
 obtain w := gq H
 subst e
 refine ⟨(.inl Z), [(.bool c)], ⟨(.bool c), _, Z, Z, Z⟩, ?_⟩
 exact Sd ⟨Z, Z⟩
theorem D2 (p0 : ae8) (f : SV) (p1 : ad8) (b : SV) (p2 p3 : Bool) (y : ae8) (z : ad8) (A : ae5) (B : af8) (C : ae6) (D : ad7) (E F : Bool) (H : sb p0 p1 p2 p3 = some (y, z, A, B, C, D, E, F)) (K : Kp) (G : List Ent) (bv : Slr (Ty.sl gR) K (sv f) p0) (aa : Slr f4 K (sv b) p1) :
  Fc Tryz.prog 25 #[(sv f), (sv b), (.bool p2), (.bool p3)] K (G) (fun v c g => ∃ (aR : Nat) (bc bd : SV) (aK aL : SV) (aM aN : SV), v = (Vp aR) ∧ (.blk aR 76 [(sv bc), (sv bd), (sv aK), (sv aL), (sv aM), (sv aN), (.bool E), (.bool F), (sv fB)]) :: (.tok 91 2 [(sv aK)]) :: (.tok 71 1 [(sv aL)]) :: (.tok 4 1 [(sv aM)]) :: (.tok 38 5 [(sv aN)]) :: G = g ∧ Slr (Ty.sl gR) c (sv bc) y ∧ Slr f4 c (sv bd) z ∧ Slr gy c (sv aK) A ∧ Slr (Ty.sl Ty.bool) c (sv aL) B ∧ Slr Ty.bool c (sv aM) C ∧ Slr fP c (sv aN) D) := by
 refine fN Tryz.func25 Z Tryz.ntmps25 Tryz.results25 Z ?_
 unfold sb at H
 refine fc<|fa<|Ea Z<|fb<|fc<|fa<|Em Z<|Em Z<|Em Z<|?_
 obtain ⟨M, b0, H⟩ := bnd H
 refine fe Z (Ek Tryz.call34 Z (DZ p1 b M b0 _ _ aa) ?_)
 rintro _ cg _ Y ⟨a, rfl, rfl, a2⟩
 refine Em Z<|Em Z<|Eq Z (fG (cs := [(sv f), (sv b), (sv a), (sv fB), (sv fB), (sv fB), (.bool p2), (.bool p3), (sv fB)]) Z Z Z Z Z Z)<|?_
 refine fe Z (fU (cs := [(sv f), (sv b), (sv a), (sv fB), (sv fB), (sv fB), (.bool p2), (.bool p3), (sv fB)]) Z Z Z (fun d => ?_))
 refine Ea Z<|fb<|?_
 refine fz (fun j c g => ∃ (ak : SV) (aD : af8) (al : SV) (aE : ae6) (am : SV) (aF : ad7), [(9, (Vp d))] = j ∧ (.blk d 76 [(sv f), (sv b), (sv a), (sv ak), (sv al), (sv am), (.bool p2), (.bool p3), (sv fB)]) :: (.tok 71 1 [(sv ak)]) :: (.tok 4 1 [(sv al)]) :: (.tok 38 5 [(sv am)]) :: (.tok 91 2 [(sv a)]) :: G = g ∧ wy p0 p1 M p2 p3 aD aE aF = some (y, z, A, B, C, D, E, F) ∧ Slr (Ty.sl Ty.bool) c (sv ak) aD ∧ Slr Ty.bool c (sv al) aE ∧ Slr fP c (sv am) aF) ?_ ?_
 ·refine fc<|fa<|Ea Z<|fb<|fA<|?_
  refine fY (fun ba j c g => ∃ (h : Int) (e : SV) (J : af8) (L : SV) (ad : ae6) (w : SV) (ae : ad7), [(1, (sv b)), (9, (Vp d)), (10, (Vi h))] = j ∧ (.blk d 76 [(sv f), (sv b), (sv a), (sv e), (sv L), (sv w), (.bool p2), (.bool p3), (sv fB)]) :: (.tok 71 1 [(sv e)]) :: (.tok 4 1 [(sv L)]) :: (.tok 38 5 [(sv w)]) :: (.tok 91 2 [(sv a)]) :: G = g ∧ lp4 (wG p1 p0 M p2 p3) ba h J ad ae = some (y, z, A, B, C, D, E, F) ∧ Slr (Ty.sl Ty.bool) c (sv e) J ∧ Slr Ty.bool c (sv L) ad ∧ Slr fP c (sv w) ae) BIG ?_ ?_
  ·exact Shift.nilTok1 71 1<|Shift.nilTok1 4 1<|Shift.nilTok1 38 5<|Pu4<|Pu1<|Pu2<|Pu3<|Pu4<|Sd<|⟨_, by exact R3, 0, fB, ([] : af8), fB, ([] : ae6), fB, ([] : ad7), Z, Z, H, (Slr.nil (Ty.sl Ty.bool) _), (Slr.nil Ty.bool _), (Slr.nil fP _)⟩
  rintro ba _ b4 _ an ⟨h, e, J, L, ad, w, ae, rfl, rfl, H, aZ, a0, aC⟩
  obtain ⟨cy, ac, rfl, bt, H⟩ := lps4 H
  unfold wG at H
  refine fc<|fc<|fa<|Em Z<|Em Z<|Eq Z (fC Z)<|EF 2 Z<|El (sv a) Z (Rb0 Z)<|?_
  have R := a2.mono an
  refine Eq Z (ge (T := gy) R Z Z)<|Ec Z<|fb<|?_
  refine fm Z ?_ ?_
  ·intro V
   obtain ⟨V, H⟩ := It V H
   refine ft ?_
   refine fz (fun j c g => ∃ (ah : SV) (aq : af8) (ai : SV) (ar : ae6) (aj : SV) (au : ad7), [(1, (sv b)), (9, (Vp d)), (10, (Vi h))] = j ∧ (.blk d 76 [(sv f), (sv b), (sv a), (sv ah), (sv ai), (sv aj), (.bool p2), (.bool p3), (sv fB)]) :: (.tok 71 1 [(sv ah)]) :: (.tok 4 1 [(sv ai)]) :: (.tok 38 5 [(sv aj)]) :: (.tok 91 2 [(sv a)]) :: G = g ∧ wz p1 h p0 M p2 p3 ac aq ar au = some (y, z, A, B, C, D, E, F) ∧ Slr (Ty.sl Ty.bool) c (sv ah) aq ∧ Slr Ty.bool c (sv ai) ar ∧ Slr fP c (sv aj) au) ?_ ?_
   ·refine fA ?_
    refine fz (fun j c g => ∃ (ax : Nat) (N n : Int) (o p : Int) (t : Bool) (s : Int), [(1, (sv b)), (9, (Vp d)), (10, (Vi h)), (11, (Vp ax)), (12, (Vi N))] = j ∧ (.blk ax 38 (ff (Result.mk n o p t s))) :: (.blk d 76 [(sv f), (sv b), (sv a), (sv e), (sv L), (sv w), (.bool p2), (.bool p3), (sv fB)]) :: (.tok 71 1 [(sv e)]) :: (.tok 4 1 [(sv L)]) :: (.tok 38 5 [(sv w)]) :: (.tok 91 2 [(sv a)]) :: G = g ∧ wF p1 h p0 M J ad ae p2 p3 ac N n o p t s = some (y, z, A, B, C, D, E, F)) ?_ ?_
    ·obtain ⟨aO, a3, H⟩ := bnd H
     obtain ⟨aP, a4, H⟩ := bnd H
     obtain ⟨i, av, a5, H⟩ := iw H
     refine fw _ Z (Ic Mb0 (Ic Mb1 (Ic Mb2 (Ic Mb3 (Ic Mb4 In0)))))<|Jm 0 Z<|Jm 1 Z<|Jq 2 Z (fC Z)<|JF 3 2 Z<|Jl 4 (sv a) Z (Rb0 Z)<|Jm 5 Z<|?_
     obtain ⟨_, rfl, bp⟩ := Slr.at R a3
     refine Jq 6 Z (Qi (T := gy) R a3 Z)<|Jq 7 Z (gA (q := 0) (m := 0) Z Z Z Z Z (by decide) Z (by decide))<|Jl 8 (Vi aO.x0) Z (Rdc.k bp Z)<|Jm 9 Z<|Jq 10 Z (fC Z)<|JF 11 2 Z<|Jl 12 (sv a) Z (Rb0 Z)<|Jm 13 Z<|?_
     obtain ⟨_, rfl, bq⟩ := Slr.at R a4
     refine Jq 14 Z (Qi (T := gy) R a4 Z)<|Jq 15 Z (gA (q := 1) (m := 1) Z Z Z Z Z (by decide) Z (by decide))<|Jl 16 (Vi aP.x1) Z (Rdc.k bq Z)<|?_
     refine gW 17 21 (by kernel_rfl) ?_ ?_
     ·refine id (Jy Z ?_)
      have bB := (aa.mono Y).mono an
      refine Ek Tryz.call33 Z (y2 p1 b aO.x0 aP.x1 i av a5 _ _ bB) ?_
      rintro _ b5 _ cq ⟨rfl, rfl⟩
      refine ⟨(Ic Mb0 (Ic Mb1 (Ic Mb2 (Ic Mb3 (Ic Mb4 In0))))), ?_⟩
      refine Jm 18 Z<|Jx 19 Z<|Jx 20 Z<|?_
      refine Ao 21 Z ?_
      refine fD (cs := (ff (Result.mk 0 0 0 false 0))) Z Z Z Z (fun bj => ⟨(Ic Mb1 (Ic Mb2 (Ic Mb3 (Ic Mb4 (Ic Mb5 In0))))), ?_⟩)
      refine Ao 22 Z ?_
      refine Sa (ff i) Z .here Z ⟨(Ic Mb1 (Ic Mb2 (Ic Mb3 (Ic Mb4 (Ic Mb5 In0))))), ?_⟩
      exact Ja 23 Z<|Ad<|Pu5<|Pu5<|Pu5<|Pu5<|Pu5<|Pu5<|Sd<|⟨_, by exact R5, bj, av, i.kind, i.case_, i.value, i.ok, i.number, Z, Z, H⟩
     ·refine id (Jy Z ?_)
      refine fD (cs := (ff (Result.mk 0 0 0 false 0))) Z Z Z Z (fun bk => ⟨(Ic Mb1 (Ic Mb2 (Ic Mb3 (Ic Mb4 (Ic Mb5 In0))))), ?_⟩)
      refine Ao 17 Z ?_
      have bC := (aa.mono Y).mono an
      refine Ek Tryz.call33 Z (y2 p1 b aO.x0 aP.x1 i av a5 _ _ bC) ?_
      rintro _ b6 _ cr ⟨rfl, rfl⟩
      refine ⟨(Ic Mb1 (Ic Mb2 (Ic Mb3 (Ic Mb4 (Ic Mb5 In0))))), ?_⟩
      refine Jm 18 Z<|Jx 19 Z<|Jx 20 Z<|?_
      refine Ao 22 Z ?_
      refine Sa (ff i) Z .here Z ⟨(Ic Mb1 (Ic Mb2 (Ic Mb3 (Ic Mb4 (Ic Mb5 In0))))), ?_⟩
      exact Ja 23 Z<|Ad<|Pu5<|Pu5<|Pu5<|Pu5<|Pu5<|Pu5<|Sd<|⟨_, by exact R5, bk, av, i.kind, i.case_, i.value, i.ok, i.number, Z, Z, H⟩
    rintro _ bh _ Q ⟨ax, N, n, o, p, t, s, rfl, rfl, H⟩
    unfold wF at H
    refine fc<|fa<|Em Z<|Em Z<|Eq Z (fC Z)<|EF 4 Z<|El (sv L) Z (Rb1 Z)<|Em Z<|Ec Z<|?_
    have aU : RowR Ty.bool bh [[(.bool (dcd (N ≥ 0)))]] [dcd (N ≥ 0)] := RowR.cons Z (RowR.nil)
    refine fe Z (gh (T := Ty.bool) (rows := [[(.bool (dcd (N ≥ 0)))]]) (l := [dcd (N ≥ 0)]) Z Z Z aU Z Z Z Z Z Z Z Z (fun cB => ?_))
    obtain ⟨aw, bW, H⟩ := bnd H
    have bE := a0.mono Q
    refine fe Z (f8 (T := Ty.bool) (bytes := 1) (q := 0) Z Z Z bE Mb4 Z (SrcT.row Mb0 aU Z) bW Z Z Z Z Z Z Z Z (fun u aQ X bD => ⟨_, (.there (.there (.there (.there .here)))), ?_⟩))
    refine Ow.shift (Re0 (Sd ?_))
    refine Eq Z (fC Z)<|EF 4 Z<|?_
    refine fe Z (So [(sv u)] [(sv f), (sv b), (sv a), (sv e), (sv u), (sv w), (.bool p2), (.bool p3), (sv fB)] Z (.there .here) Z ?_)
    refine fb ?_
    refine fz (fun j c g => ∃ (x : SV) (S : ad7), [(1, (sv b)), (9, (Vp d)), (10, (Vi h))] = j ∧ (.blk d 76 [(sv f), (sv b), (sv a), (sv e), (sv u), (sv x), (.bool p2), (.bool p3), (sv fB)]) :: (.tok 38 5 [(sv x)]) :: (.tok 71 1 [(sv e)]) :: (.tok 4 1 [(sv u)]) :: (.tok 91 2 [(sv a)]) :: G = g ∧ wE p1 h p0 M J aw p2 p3 ac S = some (y, z, A, B, C, D, E, F) ∧ Slr fP c (sv x) S) ?_ ?_
    ·obtain ⟨be, a6, H⟩ := bnd H
     refine fw _ Z (Ic Mb0 (Ic Mb2 (Ic Mb3 (Ic Mb5 In0))))<|Jm 0 Z<|Jm 1 Z<|Jq 2 Z (fC Z)<|JF 3 5 Z<|JL 5 5 (ff (Result.mk n o p t s)) Z (Rb0 Z)<|?_
     refine gW 4 6 (by kernel_rfl) ?_ ?_
     ·refine id (Jyq Z (gr (v := (sv w)) Z Z Z (Rb1 Z)) ⟨(Ic Mb0 (Ic Mb2 (Ic Mb3 (Ic Mb5 In0)))), ?_⟩)
      refine Ao 6 Z ?_
      have aV : RowR fP aQ [(ff (Result.mk n o p t s))] [(Result.mk n o p t s)] := RowR.cons Z (RowR.nil)
      refine gh (T := fP) (rows := [(ff (Result.mk n o p t s))]) (l := [(Result.mk n o p t s)]) Z Z Z aV Z Z Z Z Z Z Z Z (fun cC => ⟨(Ic Mb1 (Ic Mb3 (Ic Mb4 (Ic Mb6 In0)))), ?_⟩)
      refine Ao 7 Z ?_
      have bH := (aC.mono Q).mono X
      refine f8 (T := fP) (bytes := 40) (q := 0) Z Z Z bH Mb5 Z (SrcT.row Mb0 aV Z) a6 Z Z Z Z Z Z Z Z (fun aH b7 ct bG => ⟨_, (.there (.there (.there (.there (.there .here))))), ⟨(Ic Mb1 (Ic Mb3 (Ic Mb4 (Ic Mb6 In0)))), ?_⟩⟩)
      refine Aw.shift (Re0 (Sd ⟨(Ic Mb0 (Ic Mb2 (Ic Mb3 (Ic Mb5 In0)))), ?_⟩))
      refine Jq 8 Z (fC Z)<|JF 9 5 Z<|?_
      refine Ao 10 Z ?_
      refine So [(sv aH)] [(sv f), (sv b), (sv a), (sv e), (sv u), (sv aH), (.bool p2), (.bool p3), (sv fB)] Z (.there .here) Z ⟨(Ic Mb0 (Ic Mb2 (Ic Mb3 (Ic Mb5 In0)))), ?_⟩
      exact Ad<|Pu5<|Pu4<|Pu4<|Pu5<|Pu5<|Re5<|Sd<|⟨_, by exact R3, aH, be, Z, Z, H, bG⟩
     ·refine id (Jy Z ?_)
      have aW : RowR fP aQ [(ff (Result.mk n o p t s))] [(Result.mk n o p t s)] := RowR.cons Z (RowR.nil)
      refine gh (T := fP) (rows := [(ff (Result.mk n o p t s))]) (l := [(Result.mk n o p t s)]) Z Z Z aW Z Z Z Z Z Z Z Z (fun cD => ⟨(Ic Mb1 (Ic Mb3 (Ic Mb4 (Ic Mb6 In0)))), ?_⟩)
      refine gB 4 (by kernel_rfl) (Jyq Z (gr (v := (sv w)) Z Z Z (Rb2 Z)) ⟨(Ic Mb1 (Ic Mb3 (Ic Mb4 (Ic Mb6 In0)))), ?_⟩)
      refine Ao 7 Z ?_
      have bJ := (aC.mono Q).mono X
      refine f8 (T := fP) (bytes := 40) (q := 0) Z Z Z bJ Mb5 Z (SrcT.row Mb0 aW Z) a6 Z Z Z Z Z Z Z Z (fun aI b8 cu bI => ⟨_, (.there (.there (.there (.there (.there .here))))), ⟨(Ic Mb1 (Ic Mb3 (Ic Mb4 (Ic Mb6 In0)))), ?_⟩⟩)
      refine Aw.shift (Re0 (Sd ⟨(Ic Mb0 (Ic Mb2 (Ic Mb3 (Ic Mb5 In0)))), ?_⟩))
      refine Jq 8 Z (fC Z)<|JF 9 5 Z<|?_
      refine Ao 10 Z ?_
      refine So [(sv aI)] [(sv f), (sv b), (sv a), (sv e), (sv u), (sv aI), (.bool p2), (.bool p3), (sv fB)] Z (.there .here) Z ⟨(Ic Mb0 (Ic Mb2 (Ic Mb3 (Ic Mb5 In0)))), ?_⟩
      exact Ad<|Pu5<|Pu4<|Pu4<|Pu5<|Pu5<|Re5<|Sd<|⟨_, by exact R3, aI, be, Z, Z, H, bI⟩
    rintro _ b9 _ ao ⟨x, S, rfl, rfl, H, bF⟩
    unfold wE at H
    refine fc<|fa<|Em Z<|Eq Z (fC Z)<|EF 2 Z<|El (sv a) Z (Rb0 Z)<|?_
    have a1 := ((R.mono Q).mono X).mono ao
    refine Eq Z (ge (T := gy) a1 Z Z) ?_
    obtain ⟨b2, bX, H⟩ := bnd H
    refine fe Z (jw (T := Ty.bool) (r := [(.bool false)]) Z Z Z bX Z Z Z Z Z Z Z Z Z Z (fun O b1 bm cw => ?_))
    refine Ea Z<|fb<|?_
    refine fz (fun j c g => ∃ (af : ae6) (aG : List (List Value)), [(1, (sv b)), (9, (Vp d)), (10, (Vi h)), (13, (sv O))] = j ∧ (.blk d 76 [(sv f), (sv b), (sv a), (sv e), (sv u), (sv x), (.bool p2), (.bool p3), (sv fB)]) :: (.row (sv O) 4 1 aG.flatten) :: (.tok 38 5 [(sv x)]) :: (.tok 71 1 [(sv e)]) :: (.tok 4 1 [(sv u)]) :: (.tok 91 2 [(sv a)]) :: G = g ∧ wA p1 h p0 M J aw S p2 p3 ac af = some (y, z, A, B, C, D, E, F) ∧ RowR Ty.bool c aG af) ?_ ?_
    ·refine fc<|fa<|Ea Z<|fb<|fA<|?_
     refine fY (fun bb j c g => ∃ (U : ae6) (ag : List (List Value)) (I : Int), [(1, (sv b)), (9, (Vp d)), (10, (Vi h)), (13, (sv O)), (14, (Vi I))] = j ∧ (.blk d 76 [(sv f), (sv b), (sv a), (sv e), (sv u), (sv x), (.bool p2), (.bool p3), (sv fB)]) :: (.row (sv O) 4 1 ag.flatten) :: (.tok 38 5 [(sv x)]) :: (.tok 71 1 [(sv e)]) :: (.tok 4 1 [(sv u)]) :: (.tok 91 2 [(sv a)]) :: G = g ∧ lp2 (wC p1 h p0 M J aw S p2 p3 ac) bb U I = some (y, z, A, B, C, D, E, F) ∧ RowR Ty.bool c ag U) BIG ?_ ?_
     ·exact Pu5<|Pu5<|Pu5<|Pu5<|Pu4<|Pu5<|Sd<|⟨_, by exact R5, b2, b1, 0, Z, Z, H, bm⟩
     rintro bb _ ca _ aS ⟨U, ag, I, rfl, rfl, H, aX⟩
     obtain ⟨cz, cx, rfl, bu, H⟩ := jC H
     unfold wC at H
     refine fc<|fc<|fa<|Em Z<|Em Z<|Eq Z (fC Z)<|EF 2 Z<|El (sv a) Z (Rb0 Z)<|?_
     have ab := a1.mono aS
     refine Eq Z (ge (T := gy) ab Z Z)<|Ec Z<|fb<|?_
     refine fm Z ?_ ?_
     ·intro W
      obtain ⟨W, H⟩ := It W H
      refine ft<|fc<|fA<|?_
      obtain ⟨bf, a7, H⟩ := bnd H
      obtain ⟨bg, a8, H⟩ := bnd H
      obtain ⟨P, bY, H⟩ := bnd H
      obtain ⟨cF, a9, H⟩ := bnd H
      refine fw _ Z (Ic Mb0 (Ic Mb2 (Ic Mb3 (Ic Mb4 (Ic Mb5 In0)))))<|Jm 0 Z<|Jm 1 Z<|Jm 2 Z<|Jm 3 Z<|Jq 4 Z (fC Z)<|JF 5 2 Z<|Jl 6 (sv a) Z (Rb0 Z)<|Jm 7 Z<|?_
      obtain ⟨_, rfl, br⟩ := Slr.at ab a7
      refine Jq 8 Z (Qi (T := gy) ab a7 Z)<|JL 9 2 (gv bf) Z (Rdc.k br Z)<|Jm 10 Z<|Jq 11 Z (fC Z)<|JF 12 2 Z<|Jl 13 (sv a) Z (Rb0 Z)<|Jm 14 Z<|?_
      obtain ⟨_, rfl, bs⟩ := Slr.at ab a8
      refine Jq 15 Z (Qi (T := gy) ab a8 Z)<|JL 16 2 (gv bg) Z (Rdc.k bs Z)<|?_
      refine Ao 17 Z ?_
      have bK := (((((aa.mono Y).mono an).mono Q).mono X).mono ao).mono aS
      refine Ek Tryz.call35 Z (D1 p1 b bf bg P bY _ _ bK) ?_
      rintro _ cb _ bl ⟨rfl, rfl⟩
      refine ⟨(Ic Mb0 (Ic Mb2 (Ic Mb3 (Ic Mb4 (Ic Mb5 In0))))), ?_⟩
      have ap := aX.mono bl
      obtain ⟨cA, aB, bw⟩ := RowR.at ap a9
      obtain rfl := bw
      refine gB 18 (by kernel_rfl) (Jyq Z (gP (T := Ty.bool) Mb1 ap aB (fR a9).1 Z Z Z Z Z) ⟨(Ic Mb0 (Ic Mb2 (Ic Mb3 (Ic Mb4 (Ic Mb5 In0))))), ?_⟩)
      refine Ao 19 Z ?_
      refine gX (T := Ty.bool) (vs := [(.bool P)]) (r' := [(.bool P)]) (l' := (gb U I P)) Z Z Z Z Z (.there .here) ap aB Z Z Z (RowR.set I ap Z) (fun bo => ⟨(Ic Mb0 (Ic Mb2 (Ic Mb3 (Ic Mb4 (Ic Mb5 In0))))), ?_⟩)
      have cp := iV aB (v := [(.bool P)])
      exact Ad<|fa<|Em Z<|Er (wI (I + 1)) Z<|Ea Z<|fb<|Pu5<|Pu5<|Pu5<|Pu5<|Pu5<|Pu5<|Sd<|⟨_, by exact R5, _, Nat.lt_succ_self _, (gb U I P), (ag.set I.toNat [(.bool P)]), (wI (I + 1)), Z, Z, (bu ▸ H), bo⟩
     ·intro W
      obtain ⟨W, H⟩ := If W H
      exact f5<|Pu5<|Pu5<|Pu5<|Pu5<|Pu5<|Pu5<|Sd<|⟨_, by exact R4, U, ag, Z, Z, H, aX⟩
    rintro _ cc _ ay ⟨af, aG, rfl, rfl, H, bn⟩
    unfold wA at H
    refine fa<|Em Z<|Em Z<|Eq Z (fC Z)<|EF 3 Z<|El (sv e) Z (Rb0 Z)<|Em Z<|?_
    refine Ow.shift (Shift.settle (T := Ty.bool) (.there .here) bn Z (fun bi az bL => Sd ?_))
    have aY : RowR (Ty.sl Ty.bool) bi [[(sv O)]] [af] := RowR.cons ⟨O, Z, bL⟩ (RowR.nil)
    refine fe Z (gh (T := (Ty.sl Ty.bool)) (rows := [[(sv O)]]) (l := [af]) Z Z Z aY Z Z Z Z Z Z Z Z (fun cE => ?_))
    obtain ⟨b3, bZ, H⟩ := bnd H
    have bN := ((((aZ.mono Q).mono X).mono ao).mono ay).mono az
    refine fe Z (f8 (T := (Ty.sl Ty.bool)) (bytes := 24) (q := 0) Z Z Z bN Mb4 Z (SrcT.row Mb0 aY Z) bZ Z Z Z Z Z Z Z Z (fun aJ cd aT bM => ⟨_, (.there (.there (.there (.there .here)))), ?_⟩))
    refine Ow.shift (Re0 (Sd ?_))
    refine Eq Z (fC Z)<|EF 3 Z<|?_
    refine fe Z (So [(sv aJ)] [(sv f), (sv b), (sv a), (sv aJ), (sv u), (sv x), (.bool p2), (.bool p3), (sv fB)] Z .here Z ?_)
    refine fb<|Pu5<|Pu3<|Pu5<|Pu5<|Pu4<|Re5<|?_
    have bO := (((bD.mono ao).mono ay).mono az).mono aT
    have bP := ((bF.mono ay).mono az).mono aT
    exact Sd ⟨_, by exact R3, aJ, b3, u, aw, x, S, Z, Z, H, bM, bO, bP⟩
   rintro _ ce _ cv ⟨ah, aq, ai, ar, aj, au, rfl, rfl, H, bx, bz, bA⟩
   unfold wz at H
   exact fa<|Em Z<|Er (wI (h + 1)) Z<|Ea Z<|fb<|Pu4<|Pu4<|Pu4<|Pu4<|Pu4<|Sd<|⟨_, by exact R3, _, Nat.lt_succ_self _, (wI (h + 1)), ah, aq, ai, ar, aj, au, Z, Z, (bt ▸ H), bx, bz, bA⟩
  ·intro V
   obtain ⟨V, H⟩ := If V H
   exact f5<|Pu4<|Pu4<|Pu4<|Pu4<|Pu4<|Sd<|⟨_, by exact R1, e, J, L, ad, w, ae, Z, Z, H, aZ, a0, aC⟩
 rintro _ cf _ aA ⟨ak, aD, al, aE, am, aF, rfl, rfl, H, bT, bU, bV⟩
 unfold wy at H
 refine fc<|fa<|Em Z<|Ea Z<|fb<|fx<|?_
 obtain ⟨ch, ci, cj, ck, cl, cm, cn, co⟩ := inj8 H
 subst y z A B C D E F
 refine ⟨(.inl Z), [(Vp d)], ⟨(Vp d), _, Z, Z, Z⟩, ?_⟩
 refine Pu3<|Pu3<|Pu3<|Pu4<|Pu4<|?_
 have bQ := (bv.mono Y).mono aA
 have bR := (aa.mono Y).mono aA
 have bS := a2.mono aA
 exact Sd ⟨d, f, b, a, ak, al, am, Z, Z, bQ, bR, bS, bT, bU, bV⟩
theorem np (j : Nat) (F : ae8) (g : SV) (E : ad8) (s : SV) (D : ae5) (c : SV) (C : af8) (r : SV) (B : ae6) (p : SV) (I : ad7) (t : SV) (l n : Bool) (J : ae3) (h : SV) (o : List (List Value)) (p1 : Int) (e : Op) (H : m8 F E D C B I l n J p1 = some e) (K : Kp) (G : List Ent) (u : Slr (Ty.sl gR) K (sv g) F) (af : Slr f4 K (sv s) E) (f : Slr gy K (sv c) D) (ae : Slr (Ty.sl Ty.bool) K (sv r) C) (ad : Slr Ty.bool K (sv p) B) (ag : Slr fP K (sv t) I) (ah : RowR Ty.str K o J) :
  Fc Tryz.prog 52 #[(Vp j), (Vi p1)] K ((.blk j 76 [(sv g), (sv s), (sv c), (sv r), (sv p), (sv t), (.bool l), (.bool n), (sv h)]) :: (.row (sv h) 9 1 o.flatten) :: G) (fun v i N => ∃ (L M : SV), v = (.agg (fj e L M).toArray) ∧ K = i ∧ (.blk j 76 [(sv g), (sv s), (sv c), (sv r), (sv p), (sv t), (.bool l), (.bool n), (sv h)]) :: (.row (sv h) 9 1 o.flatten) :: G = N ∧ Slr fW i (sv L) e.cases ∧ Slr Ty.i64 i (sv M) e.draws) := by
 refine fN Tryz.func52 Z Tryz.ntmps52 Tryz.results52 Z ?_
 unfold m8 at H
 refine fc<|fa<|?_
 refine fe Z (fD (cs := (fj (Op.mk 0 0 0 0 0 [] []) fB fB)) Z Z Z Z (fun ab => ?_))
 refine fb<|fc<|?_
 obtain ⟨Y, x, H⟩ := bnd H
 obtain ⟨ak, y, H⟩ := bnd H
 obtain ⟨aa, z, H⟩ := bnd H
 obtain ⟨d, A, H⟩ := bnd H
 refine fw _ Z (Ic Mb1 (Ic Mb2 In0))<|Jm 0 Z<|Jq 1 Z (fC Z)<|JF 2 0 Z<|Jl 3 (sv g) Z (Rb0 Z)<|Jm 4 Z<|Jq 5 Z (fC Z)<|JF 6 2 Z<|Jl 7 (sv c) Z (Rb0 Z)<|Jm 8 Z<|?_
 obtain ⟨_, rfl, O⟩ := Slr.at f x
 refine Jq 9 Z (Qi (T := gy) f x Z)<|Jq 10 Z (gA (q := 0) (m := 0) Z Z Z Z Z (by decide) Z (by decide))<|Jl 11 (Vi Y.x0) Z (Rdc.k O Z)<|?_
 obtain ⟨ai, S, P⟩ := Slr.at u y
 obtain ⟨X, rfl, w⟩ := S
 refine Jq 12 Z (Qi (T := (Ty.sl gR)) u y Z)<|Jl 13 (sv X) Z (Rdc.k P Z)<|Jm 14 Z<|Jq 15 Z (fC Z)<|JF 16 2 Z<|Jl 17 (sv c) Z (Rb0 Z)<|Jm 18 Z<|?_
 obtain ⟨_, rfl, Q⟩ := Slr.at f z
 refine Jq 19 Z (Qi (T := gy) f z Z)<|Jq 20 Z (gA (q := 1) (m := 1) Z Z Z Z Z (by decide) Z (by decide))<|Jl 21 (Vi aa.x1) Z (Rdc.k Q Z)<|?_
 obtain ⟨aj, U, R⟩ := Slr.at w A
 obtain ⟨a, b, rfl, V, W⟩ := U
 refine Jq 22 Z (Qi (T := gR) w A Z)<|JL 23 7 (fj d a b) Z (Rdc.k R Z)<|?_
 refine Ao 24 Z ?_
 refine Sa (fj d a b) Z .here Z ⟨(Ic Mb1 (Ic Mb2 In0)), ?_⟩
 refine Ad<|fx<|?_
 obtain ac := gq H
 subst e
 refine ⟨(.inl Z), [(.agg (fj d a b).toArray)], ⟨(.agg (fj d a b).toArray), _, Z, ⟨_, 7, (fj d a b), Z, Z, Z, Z, ⟨Z, Rb0 Z⟩, Z⟩, Z⟩, ?_⟩
 exact Pu2<|Pu2<|Re2<|Sd<|⟨a, b, Z, Z, Z, V, W⟩
theorem D5 (p0 : ad1) (h : SV) (p1 : ae0) (j : SV) (c : Bool) (H : sr p0 p1 = some c) (K : Kp) (G : List Ent) (ai : Slr fH K (sv h) p0) (aj : Slr fJ K (sv j) p1) :
  Fc Tryz.prog 82 #[(sv h), (sv j)] K (G) (fun v l a => v = (.bool c) ∧ G = a) := by
 refine fN Tryz.func82 Z Tryz.ntmps82 Tryz.results82 Z ?_
 unfold sr at H
 refine fc<|fa<|Ea Z<|fb<|?_
 refine fz (fun e l a => [] = e ∧ G = a ∧ wN = some c) ?_ ?_
 ·refine fc<|fa<|Ea Z<|fb<|fA<|?_
  refine fY (fun M e l a => ∃ (b : Int), [(0, (sv h)), (1, (sv j)), (5, (Vi b))] = e ∧ G = a ∧ lp1 (wQ p0 p1) M b = some c) BIG ?_ ?_
  ·exact Sd ⟨_, by exact R3, 0, Z, Z, H⟩
  rintro M _ aK _ C ⟨b, rfl, rfl, H⟩
  obtain ⟨aZ, x, rfl, ah, H⟩ := lr H
  unfold wQ at H
  refine fc<|fc<|fa<|Em Z<|Em Z<|?_
  have p := aj.mono C
  refine Eq Z (ge (T := fJ) p Z Z)<|Ec Z<|fb<|?_
  refine fm Z ?_ ?_
  ·intro n
   obtain ⟨n, H⟩ := It n H
   refine ft ?_
   refine fz (fun e l a => [(0, (sv h)), (1, (sv j)), (5, (Vi b))] = e ∧ G = a ∧ wO p0 p1 b x = some c) ?_ ?_
   ·refine fA<|fc<|fc<|fa<|Em Z<|Em Z<|Em Z<|?_
    obtain ⟨X, J, H⟩ := bnd H
    obtain ⟨a6, aq, af⟩ := Slr.at p J
    obtain ⟨R, S, rfl, ay, az⟩ := aq
    refine Eq Z (Qi (T := fJ) p J Z)<|EF 1 Z<|EL 7 (fj X.op R S) Z (Rdc.k af Z)<|?_
    obtain ⟨aE, aC, H⟩ := bnd H
    have E := ai.mono C
    refine fe Z (Ek Tryz.call84 Z (yR p0 h X.op R S aE aC _ _ E ay az) ?_)
    rintro _ aL _ w ⟨bf, rfl, rfl, aA⟩
    refine Eq Z (ge (T := fP) aA Z Z)<|Ec Z<|fb<|?_
    refine fm Z ?_ ?_
    ·intro o
     obtain ⟨o, H⟩ := It o H
     refine fc<|fa<|Ea Z<|fb<|fx<|?_
     obtain B := gq H
     subst c
     refine ⟨(.inl Z), [(.bool true)], ⟨(.bool true), _, Z, Z, Z⟩, ?_⟩
     exact Re0<|Sd<|⟨Z, Z⟩
    ·intro o
     obtain ⟨o, H⟩ := If o H
     refine ft<|fc<|fa<|Ea Z<|fb<|fA<|?_
     refine fY (fun L e l a => ∃ (i : Int), [(0, (sv h)), (1, (sv j)), (5, (Vi b)), (6, (Vi i))] = e ∧ G = a ∧ lp1 (wP p0 p1 b x) L i = some c) BIG ?_ ?_
     ·exact Re0<|Sd<|⟨_, by exact R4, 0, Z, Z, H⟩
     rintro L _ aF _ u ⟨i, rfl, rfl, H⟩
     obtain ⟨aY, aD, rfl, ag, H⟩ := lr H
     unfold wP at H
     refine fc<|fc<|fa<|Em Z<|Em Z<|Ec Z<|fb<|?_
     refine fm Z ?_ ?_
     ·intro m
      obtain ⟨m, H⟩ := It m H
      refine ft<|fc<|fA<|?_
      refine fz (fun e l a => ∃ (y : Bool), [(0, (sv h)), (1, (sv j)), (5, (Vi b)), (6, (Vi i)), (51, (.bool y))] = e ∧ G = a ∧ sq p0 p1 b i x aD y = some c) ?_ ?_
      ·obtain ⟨z, r, H⟩ := bnd H
       obtain ⟨A, s, H⟩ := bnd H
       rcases gY (!(dcd (z.thread = A.thread))) with D | D <;> revert D
       ·intro f
        have f := kT (iv (f))
        have H := f0 f H
        obtain ⟨U, F, H⟩ := bnd H
        obtain ⟨V, I, H⟩ := bnd H
        obtain ⟨W, aB, H⟩ := bnd H
        refine fw _ Z In0<|Jm 0 Z<|Jm 1 Z<|?_
        have g := (p.mono w).mono u
        obtain ⟨a0, ak, Y⟩ := Slr.at g r
        obtain ⟨a7, a8, rfl, aQ, aR⟩ := ak
        refine Jq 2 Z (Qi (T := fJ) g r Z)<|JF 3 0 Z<|Jl 4 (Vi z.thread) Z (Rdc.k Y Z)<|Jm 5 Z<|Jm 6 Z<|?_
        obtain ⟨a1, al, aa⟩ := Slr.at g s
        obtain ⟨a9, ba, rfl, aS, aT⟩ := al
        refine Jq 7 Z (Qi (T := fJ) g s Z)<|JF 8 0 Z<|Jl 9 (Vi A.thread) Z (Rdc.k aa Z)<|Jc 10 Z<|Jm 11 Z<|Aw.known (d := 38) Z (lB (iE f))<|Bm 12 Z<|Bm 13 Z<|Bm 14 Z<|?_
        obtain ⟨a2, am, ab⟩ := Slr.at g F
        obtain ⟨N, O, rfl, ar, au⟩ := am
        refine Bq 15 Z (Qi (T := fJ) g F Z)<|BF 16 1 Z<|BL 17 7 (fj U.op N O) Z (Rdc.k ab Z)<|Bm 18 Z<|Bm 19 Z<|?_
        obtain ⟨a3, an, ac⟩ := Slr.at g I
        obtain ⟨P, Q, rfl, av, aw⟩ := an
        refine Bq 20 Z (Qi (T := fJ) g I Z)<|BF 21 1 Z<|BL 22 7 (fj V.op P Q) Z (Rdc.k ac Z)<|?_
        refine gB 23 (by kernel_rfl) (kr Z Z Z Z Z ?_)
        have ax := (E.mono w).mono u
        refine Ek Tryz.call108 Z (D4 p0 h U.op N O V.op P Q W aB _ _ ax ar au av aw) ?_
        rintro _ aG _ aM ⟨rfl, rfl⟩
        refine ⟨In0, ?_⟩
        exact Jt 24 Z<|Ad<|Sd<|⟨_, by exact R5, W, Z, Z, H⟩
       ·intro f
        have f := kU (ir (f))
        have H := ift f H
        refine fw _ Z In0<|Jm 0 Z<|Jm 1 Z<|?_
        have q := (p.mono w).mono u
        obtain ⟨a4, ao, ad⟩ := Slr.at q r
        obtain ⟨bb, bc, rfl, aU, aV⟩ := ao
        refine Jq 2 Z (Qi (T := fJ) q r Z)<|JF 3 0 Z<|Jl 4 (Vi z.thread) Z (Rdc.k ad Z)<|Jm 5 Z<|Jm 6 Z<|?_
        obtain ⟨a5, ap, ae⟩ := Slr.at q s
        obtain ⟨bd, be, rfl, aW, aX⟩ := ap
        exact Jq 7 Z (Qi (T := fJ) q s Z)<|JF 8 0 Z<|Jl 9 (Vi A.thread) Z (Rdc.k ae Z)<|Jc 10 Z<|Jm 11 Z<|Aw.known (d := 38) Z (lA (hX f))<|Jz 12 Z<|Jz 13 Z<|Jz 14 Z<|Jz 15 Z<|Jz 16 Z<|Jz 17 Z<|Jz 18 Z<|Jz 19 Z<|Jz 20 Z<|Jz 21 Z<|Jz 22 Z<|Jz 23 Z<|Jf 24 Z<|Ad<|Sd<|⟨_, by exact R5, false, Z, Z, H⟩
      rintro _ aH _ aN ⟨y, rfl, rfl, H⟩
      unfold sq at H
      refine fm Z ?_ ?_
      ·intro t
       have H := ift t H
       refine fc<|fa<|Ea Z<|fb<|fx<|?_
       obtain B := gq H
       subst c
       refine ⟨(.inl Z), [(.bool true)], ⟨(.bool true), _, Z, Z, Z⟩, ?_⟩
       exact Sd ⟨Z, Z⟩
      ·intro t
       have H := f0 (btf t) H
       exact ft<|fa<|Em Z<|Er (wI (i + 1)) Z<|Ea Z<|fb<|Sd<|⟨_, by exact R4, _, Nat.lt_succ_self _, (wI (i + 1)), Z, Z, (ag ▸ H)⟩
     ·intro m
      obtain ⟨m, H⟩ := If m H
      exact f5<|Sd<|⟨_, by exact R3, Z, Z, H⟩
   rintro _ aI _ aO ⟨rfl, rfl, H⟩
   unfold wO at H
   exact fa<|Em Z<|Er (wI (b + 1)) Z<|Ea Z<|fb<|Sd<|⟨_, by exact R3, _, Nat.lt_succ_self _, (wI (b + 1)), Z, Z, (ah ▸ H)⟩
  ·intro n
   obtain ⟨n, H⟩ := If n H
   exact f5<|Sd<|⟨[], trivial, Z, Z, H⟩
 rintro _ aJ _ aP ⟨rfl, rfl, H⟩
 unfold wN at H
 refine fc<|fa<|Ea Z<|fb<|fx<|?_
 obtain B := gq H
 subst c
 refine ⟨(.inl Z), [(.bool false)], ⟨(.bool false), _, Z, Z, Z⟩, ?_⟩
 exact Sd ⟨Z, Z⟩
theorem FI (d : Nat) (B : ae8) (s : SV) (A : ad8) (r : SV) (z : ae5) (g : SV) (y : af8) (p : SV) (x : ae6) (f : SV) (C : ad7) (t : SV) (c a : Bool) (D : ae3) (b : SV) (o : List (List Value)) (p1 : ae6) (M : SV) (p2 : ad1) (E : SV) (h : Bool) (H : sF B A z y x C c a D p1 p2 = some h) (K : Kp) (G : List Ent) (aC : Slr (Ty.sl gR) K (sv s) B) (aB : Slr f4 K (sv r) A) (aA : Slr gy K (sv g) z) (az : Slr (Ty.sl Ty.bool) K (sv p) y) (ab : Slr Ty.bool K (sv f) x) (aD : Slr fP K (sv t) C) (aE : RowR Ty.str K o D) (U : Slr Ty.bool K (sv M) p1) (aF : Slr fH K (sv E) p2) :
  Fc Tryz.prog 46 #[(Vp d), (sv M), (sv E)] K ((.blk d 76 [(sv s), (sv r), (sv g), (sv p), (sv f), (sv t), (.bool c), (.bool a), (sv b)]) :: (.row (sv b) 9 1 o.flatten) :: G) (fun v i e => v = (.bool h) ∧ (.blk d 76 [(sv s), (sv r), (sv g), (sv p), (sv f), (sv t), (.bool c), (.bool a), (sv b)]) :: (.row (sv b) 9 1 o.flatten) :: G = e) := by
 refine fN Tryz.func46 Z Tryz.ntmps46 Tryz.results46 Z ?_
 unfold sF at H
 refine fc<|fa<|Ea Z<|fb<|?_
 refine fz (fun j i e => [(0, (Vp d)), (1, (sv M)), (2, (sv E))] = j ∧ (.blk d 76 [(sv s), (sv r), (sv g), (sv p), (sv f), (sv t), (.bool c), (.bool a), (sv b)]) :: (.row (sv b) 9 1 o.flatten) :: G = e ∧ qL p1 p2 B A z y x C c a D = some h) ?_ ?_
 ·refine fc<|fa<|Ea Z<|fb<|fA<|?_
  refine fY (fun n248 j i e => ∃ (J : Int), [(0, (Vp d)), (1, (sv M)), (2, (sv E)), (7, (Vi J))] = j ∧ K = i ∧ (.blk d 76 [(sv s), (sv r), (sv g), (sv p), (sv f), (sv t), (.bool c), (.bool a), (sv b)]) :: (.row (sv b) 9 1 o.flatten) :: G = e ∧ lp1 (wV p1 p2 B A z y x C c a D) n248 J = some h) BIG ?_ ?_
  ·exact Pu1<|Pu1<|Sd<|⟨_, by exact R4, 0, Z, Z, Z, H⟩
  rintro n248 _ _ _ - ⟨J, rfl, rfl, rfl, H⟩
  obtain ⟨a6, aU, rfl, ay, H⟩ := lr H
  unfold wV at H
  refine fc<|fc<|fa<|Em Z<|Em Z<|Eq Z (ge (T := Ty.bool) U Z Z)<|Ec Z<|fb<|?_
  refine fm Z ?_ ?_
  ·intro P
   obtain ⟨P, H⟩ := It P H
   refine ft<|fc<|fA<|?_
   refine fz (fun j i e => ∃ (af : Bool), [(0, (Vp d)), (1, (sv M)), (2, (sv E)), (7, (Vi J)), (29, (.bool af))] = j ∧ K = i ∧ (.blk d 76 [(sv s), (sv r), (sv g), (sv p), (sv f), (sv t), (.bool c), (.bool a), (sv b)]) :: (.row (sv b) 9 1 o.flatten) :: G = e ∧ tn p1 p2 J B A z y x C c a D aU af = some h) ?_ ?_
   ·refine fa<|Em Z<|Eq Z (fC Z)<|EF 4 Z<|El (sv f) Z (Rb0 Z)<|Em Z<|?_
    obtain ⟨aW, ak, H⟩ := bnd H
    obtain ⟨_, rfl, au⟩ := Slr.at ab ak
    refine Eq Z (Qi (T := Ty.bool) ab ak Z)<|El (.bool aW) Z (Rdc.k au Z)<|Em Z<|?_
    refine Ee Z ?_ ?_
    ·intro Y
     have H := ift Y H
     refine Vm Z<|Vm Z<|?_
     obtain ⟨ap, al, H⟩ := bnd H
     obtain ⟨_, rfl, av⟩ := Slr.at U al
     exact Vq Z (Qi (T := Ty.bool) U al Z)<|Vl (.bool ap) Z (Rdc.k av Z)<|Vq Z (gf Z)<|Et Z<|fb<|Pu1<|Pu1<|Sd<|⟨_, by exact R5, (!(ap)), Z, Z, Z, H⟩
    ·intro Y
     have H := f0 (btf Y) H
     exact Ez Z<|Ez Z<|Ez Z<|Ez Z<|Ez Z<|Ef Z<|fb<|Pu1<|Pu1<|Sd<|⟨_, by exact R5, false, Z, Z, Z, H⟩
   rintro _ _ _ - ⟨af, rfl, rfl, rfl, H⟩
   unfold tn at H
   refine fm Z ?_ ?_
   ·intro aa
    have H := ift aa H
    refine fc<|fa<|Ea Z<|fb<|fx<|?_
    obtain ah := gq H
    subst h
    refine ⟨(.inl Z), [(.bool false)], ⟨(.bool false), _, Z, Z, Z⟩, ?_⟩
    exact Pu1<|Pu1<|Sd<|⟨Z, Z⟩
   ·intro aa
    have H := f0 (btf aa) H
    exact ft<|fa<|Em Z<|Er (wI (J + 1)) Z<|Ea Z<|fb<|Pu1<|Pu1<|Sd<|⟨_, by exact R4, _, Nat.lt_succ_self _, (wI (J + 1)), Z, Z, Z, (ay ▸ H)⟩
  ·intro P
   obtain ⟨P, H⟩ := If P H
   exact f5<|Pu1<|Pu1<|Sd<|⟨_, by exact R3, Z, Z, H⟩
 rintro _ aZ _ n ⟨rfl, rfl, H⟩
 unfold qL at H
 refine fc<|fc<|fa<|Em Z<|Eq Z (fC Z)<|EF 7 Z<|El (.bool a) Z (Rb0 Z)<|Eq Z (gf Z)<|fb<|?_
 refine fm Z ?_ ?_
 ·intro F
  have F := iv F
  have H := f0 (btf F) H
  refine fc<|fa<|Ea Z<|fb<|fx<|?_
  obtain ah := gq H
  subst h
  refine ⟨(.inl Z), [(.bool true)], ⟨(.bool true), _, Z, Z, Z⟩, ?_⟩
  exact Pu1<|Pu1<|Sd<|⟨Z, Z⟩
 ·intro F
  have F := ir F
  have H := ift F H
  refine ft<|fc<|fa<|Ea Z<|fb<|?_
  refine fz (fun j i e => ∃ (S : SV) (V : ae0), [(2, (sv E)), (8, (sv S))] = j ∧ (.blk d 76 [(sv s), (sv r), (sv g), (sv p), (sv f), (sv t), (.bool c), (.bool a), (sv b)]) :: (.tok 96 8 [(sv S)]) :: (.row (sv b) 9 1 o.flatten) :: G = e ∧ wR p2 B A z y x C c a D V = some h ∧ Slr fJ i (sv S) V) ?_ ?_
  ·refine fc<|fa<|Ea Z<|fb<|fA<|?_
   refine fY (fun ao j i e => ∃ (L : SV) (R : ae0) (w : Int), [(0, (Vp d)), (1, (sv M)), (2, (sv E)), (8, (sv L)), (9, (Vi w))] = j ∧ (.blk d 76 [(sv s), (sv r), (sv g), (sv p), (sv f), (sv t), (.bool c), (.bool a), (sv b)]) :: (.tok 96 8 [(sv L)]) :: (.row (sv b) 9 1 o.flatten) :: G = e ∧ lp2 (wT p1 p2 B A z y x C c a D) ao R w = some h ∧ Slr fJ i (sv L) R) BIG ?_ ?_
   ·exact Shift.nilTok1 96 8<|Pu2<|Pu1<|Pu2<|Sd<|⟨_, by exact R5, fB, ([] : ae0), 0, Z, Z, H, (Slr.nil fJ _)⟩
   rintro ao _ aq _ u ⟨L, R, w, rfl, rfl, H, ac⟩
   obtain ⟨a7, a5, rfl, aj, H⟩ := jC H
   unfold wT at H
   refine fc<|fc<|fa<|Em Z<|Em Z<|?_
   have aH := (U.mono n).mono u
   refine Eq Z (ge (T := Ty.bool) aH Z Z)<|Ec Z<|fb<|?_
   refine fm Z ?_ ?_
   ·intro Q
    obtain ⟨Q, H⟩ := It Q H
    refine ft<|fc<|fA<|fc<|fa<|Em Z<|Eq Z (fC Z)<|EF 4 Z<|El (sv f) Z (Rb0 Z)<|Em Z<|?_
    obtain ⟨aX, am, H⟩ := bnd H
    have ad := (ab.mono n).mono u
    obtain ⟨_, rfl, aw⟩ := Slr.at ad am
    refine Eq Z (Qi (T := Ty.bool) ad am Z)<|El (.bool aX) Z (Rdc.k aw Z)<|Eq Z (gf Z)<|fb<|?_
    refine fm Z ?_ ?_
    ·intro I
     have I := iv I
     have H := f0 (btf I) H
     obtain ⟨N, an, H⟩ := bnd H
     obtain ⟨O, aR, H⟩ := bnd H
     obtain ⟨aY, aS, H⟩ := bnd H
     refine fw _ Z (Ic Mb0 (Ic Mb2 In0))<|Jm 0 Z<|Jm 1 Z<|Jq 2 Z (fC Z)<|JF 3 2 Z<|Jl 4 (sv g) Z (Rb0 Z)<|Jm 5 Z<|?_
     have ae := (aA.mono n).mono u
     obtain ⟨_, rfl, ax⟩ := Slr.at ae an
     refine Jq 6 Z (Qi (T := gy) ae an Z)<|Jq 7 Z (gA (q := 0) (m := 0) Z Z Z Z Z (by decide) Z (by decide))<|Jl 8 (Vi N.x0) Z (Rdc.k ax Z)<|Jm 9 Z<|Jm 10 Z<|?_
     refine Ao 11 Z ?_
     refine OpW.shift (Pu2 (Sd ?_))
     refine OpW.shift (Pu1 (Sd ?_))
     have aI := (aC.mono n).mono u
     have aJ := (aB.mono n).mono u
     have aK := (az.mono n).mono u
     have aL := (aD.mono n).mono u
     have aM := (aE.mono n).mono u
     refine Ek Tryz.call52 Z (np d B s A r z g y p x f C t c a D b o w O aR _ _ aI aJ ae aK ad aL aM) ?_
     rintro _ _ _ - ⟨W, X, rfl, rfl, rfl, aN, aO⟩
     refine ⟨(Ic Mb0 (Ic Mb1 In0)), ?_⟩
     refine Jq 12 Z (fG (cs := (f9 (gd.mk N.x0 O) W X)) Z Z Z Z Z Z) ?_
     refine Ao 13 Z ?_
     have ai : RowR fJ aq [(f9 (gd.mk N.x0 O) W X)] [(gd.mk N.x0 O)] := RowR.cons ⟨W, X, Z, aN, aO⟩ (RowR.nil)
     refine gh (T := fJ) (rows := [(f9 (gd.mk N.x0 O) W X)]) (l := [(gd.mk N.x0 O)]) Z Z Z ai Z Z Z Z Z Z Z Z (fun a8 => ⟨(Ic Mb1 (Ic Mb2 In0)), ?_⟩)
     refine Ao 14 Z ?_
     refine f8 (T := fJ) (bytes := 96) (q := 0) Z Z Z ac Mb3 Z (SrcT.row Mb0 ai Z) aS Z Z Z Z Z Z Z Z (fun aV a0 a3 aP => ⟨_, (.there (.there (.there .here))), ⟨(Ic Mb1 (Ic Mb2 In0)), ?_⟩⟩)
     refine Aw.shift (Re0 (Sd ⟨(Ic Mb0 (Ic Mb1 In0)), ?_⟩))
     exact Ja 15 Z<|Ad<|fa<|Em Z<|Er (wI (w + 1)) Z<|Ea Z<|fb<|Pu1<|Pu2<|Pu2<|Sd<|⟨_, by exact R5, _, Nat.lt_succ_self _, aV, aY, (wI (w + 1)), Z, Z, (aj ▸ H), aP⟩
    ·intro I
     have I := ir I
     have H := ift I H
     exact ft<|fa<|Em Z<|Er (wI (w + 1)) Z<|Ea Z<|fb<|Pu2<|Pu2<|Pu2<|Sd<|⟨_, by exact R5, _, Nat.lt_succ_self _, L, R, (wI (w + 1)), Z, Z, (aj ▸ H), ac⟩
   ·intro Q
    obtain ⟨Q, H⟩ := If Q H
    exact f5<|Pu2<|Pu2<|Pu2<|Sd<|⟨_, by exact R2, L, R, Z, Z, H, ac⟩
  rintro _ a1 _ ar ⟨S, V, rfl, rfl, H, aG⟩
  unfold wR at H
  refine fc<|fa<|Em Z<|Em Z<|?_
  obtain ⟨ag, aT, H⟩ := bnd H
  have aQ := (aF.mono n).mono ar
  refine fe Z (Ek Tryz.call82 Z (D5 p2 E V S ag aT _ _ aQ aG) ?_)
  rintro _ a2 _ a4 ⟨rfl, rfl⟩
  refine Eq Z (gf Z)<|Ea Z<|fb<|fx<|?_
  obtain ah := gq H
  subst h
  refine ⟨(.inl Z), [(.bool (!(ag)))], ⟨(.bool (!(ag))), _, Z, Z, Z⟩, ?_⟩
  exact Pu2<|Pu1<|Re2<|Sd<|⟨Z, Z⟩
theorem yT (p0 : ad2) (p : SV) (o : List (List Value)) (p1 : Int) (g : ad2) (H : o9 p0 p1 = some g) (K : Kp) (G : List Ent) (y : RowR Ty.u8 K o p0) :
  Fc Tryz.prog 83 #[(sv p), (.int .u64 p1)] K ((.row (sv p) 5 1 o.flatten) :: G) (fun v b e => ∃ (t : SV) (s : List (List Value)), v = (sv t) ∧ (.row (sv t) 5 1 s.flatten) :: G = e ∧ RowR Ty.u8 b s g) := by
 refine fN Tryz.func83 Z Tryz.ntmps83 Tryz.results83 Z ?_
 unfold o9 at H
 refine fc<|fa<|Ea Z<|fb<|?_
 refine fz (fun m b e => ∃ (d : SV) (n : ad2) (j : List (List Value)), [(0, (sv d))] = m ∧ (.row (sv d) 5 1 j.flatten) :: G = e ∧ wW n = some g ∧ RowR Ty.u8 b j n) ?_ ?_
 ·refine fc<|fa<|Ea Z<|fb<|fA<|?_
  refine fY (fun n107 m b e => ∃ (k : SV) (h : ad2) (i : List (List Value)) (a : Int), [(0, (sv k)), (1, (.int .u64 p1)), (5, (Vi a))] = m ∧ K = b ∧ (.row (sv k) 5 1 i.flatten) :: G = e ∧ lp2 (wX p1) n107 h a = some g ∧ RowR Ty.u8 b i h) BIG ?_ ?_
  ·exact Sd ⟨_, by exact R3, p, p0, o, 0, Z, Z, Z, H, y⟩
  rintro n107 _ _ _ - ⟨k, h, i, a, rfl, rfl, rfl, H, q⟩
  obtain ⟨L, J, rfl, x, H⟩ := jC H
  unfold wX at H
  refine fc<|fc<|fa<|Em Z<|Ec Z<|fb<|?_
  refine fm Z ?_ ?_
  ·intro f
   obtain ⟨f, H⟩ := It f H
   refine ft<|fc<|fA<|fa<|Em Z<|Em Z<|Em Z<|Er (wI (8 * a)) Z<|Eq Z (kD (c := wU (wI (8 * a))) Z Z Z Z)<|?_
   obtain ⟨N, z, H⟩ := bnd H
   refine Eq Z (Gv (CS z).1 Z Z)<|Eq Z (kD (c := wB (uz .u64 p1 (wU (wI (8 * a))))) Z Z Z Z)<|?_
   have r : RowR Ty.u8 K [[(.int .u8 (wB (uz .u64 p1 (wU (wI (8 * a))))))]] [wB (uz .u64 p1 (wU (wI (8 * a))))] := RowR.cons Z (RowR.nil)
   refine fe Z (gh (T := Ty.u8) (rows := [[(.int .u8 (wB (uz .u64 p1 (wU (wI (8 * a))))))]]) (l := [wB (uz .u64 p1 (wU (wI (8 * a))))]) Z Z Z r Z Z Z Z Z Z Z Z (fun M => ?_))
   obtain ⟨D, A, H⟩ := bnd H
   refine fe Z (gZ (T := Ty.u8) (bytes := 1) Z Z Z Mb1 q (SrcT.row Mb0 r Z) A Z Z Z Z Z Z Z Z (fun C B u => ⟨_, (.there .here), ?_⟩))
   refine Ow.shift (Re0 (Sd ?_))
   exact Ea Z<|fb<|fa<|Em Z<|Er (wI (a + 1)) Z<|Ea Z<|fb<|Sd<|⟨_, by exact R3, _, Nat.lt_succ_self _, C, D, B, (wI (a + 1)), Z, Z, Z, (x ▸ H), u⟩
  ·intro f
   obtain ⟨f, H⟩ := If f H
   exact f5<|Sd<|⟨_, by exact R1, k, h, i, Z, Z, H, q⟩
 rintro _ E _ I ⟨d, n, j, rfl, rfl, H, w⟩
 unfold wW at H
 refine fc<|fa<|Em Z<|Ea Z<|fb<|fx<|?_
 obtain F := gq H
 subst g
 refine ⟨(.inl Z), [(sv d)], ⟨(sv d), _, Z, Z, Z⟩, ?_⟩
 exact Sd ⟨d, j, Z, Z, w⟩
theorem D6 (p0 : ae6) (Y : SV) (p1 : ad1) (g : SV) (f : ByteArray) (H : sw p0 p1 = some f) (K : Kp) (G : List Ent) (Q : Slr Ty.bool K (sv Y) p0) (aY : Slr fH K (sv g) p1) :
  Fc Tryz.prog 48 #[(sv Y), (sv g)] K (G) (fun v a b => v = (.string f) ∧ G = b) := by
 refine fN Tryz.func48 Z Tryz.ntmps48 Tryz.results48 Z ?_
 unfold sw at H
 refine fc<|fa<|Ea Z<|fb<|fc<|fa<|Ea Z<|fb<|?_
 refine fz (fun d a b => ∃ (L : SV) (A : ad2) (E : List (List Value)), [(1, (sv g)), (5, (sv L))] = d ∧ (.row (sv L) 5 1 E.flatten) :: G = b ∧ su p1 A = some f ∧ RowR Ty.u8 a E A) ?_ ?_
 ·refine fc<|fa<|Ea Z<|fb<|fA<|?_
  refine fY (fun aw d a b => ∃ (M : SV) (B : ad2) (F : List (List Value)) (h : Int), [(0, (sv Y)), (1, (sv g)), (5, (sv M)), (6, (Vi h))] = d ∧ K = a ∧ (.row (sv M) 5 1 F.flatten) :: G = b ∧ lp2 (xb p0 p1) aw B h = some f ∧ RowR Ty.u8 a F B) BIG ?_ ?_
  ·have aM : RowR Ty.u8 K [] [] := RowR.nil
   exact Shift.nilRow 5 1<|Sd<|⟨_, by exact R4, fB, ([] : ad2), ([] : List (List Value)), 0, Z, Z, Z, H, aM⟩
  rintro aw _ _ _ - ⟨M, B, F, h, rfl, rfl, rfl, H, P⟩
  obtain ⟨bP, bM, rfl, ai, H⟩ := jC H
  unfold xb at H
  refine fc<|fc<|fa<|Em Z<|Em Z<|Eq Z (ge (T := Ty.bool) Q Z Z)<|Ec Z<|fb<|?_
  refine fm Z ?_ ?_
  ·intro m
   obtain ⟨m, H⟩ := It m H
   refine ft<|fc<|fA<|fc<|fa<|Em Z<|Em Z<|?_
   obtain ⟨bv, ar, H⟩ := bnd H
   obtain ⟨_, rfl, aV⟩ := Slr.at Q ar
   refine Eq Z (Qi (T := Ty.bool) Q ar Z)<|El (.bool bv) Z (Rdc.k aV Z)<|fb<|?_
   refine fm Z ?_ ?_
   ·intro O
    have H := ift O H
    refine fa<|Em Z<|?_
    have ag : RowR Ty.u8 K [[(.int .u8 1)]] [1] := RowR.cons Z (RowR.nil)
    refine fe Z (gh (T := Ty.u8) (rows := [[(.int .u8 1)]]) (l := [1]) Z Z Z ag Z Z Z Z Z Z Z Z (fun bX => ?_))
    obtain ⟨bw, bb, H⟩ := bnd H
    refine fe Z (gZ (T := Ty.u8) (bytes := 1) Z Z Z Mb1 P (SrcT.row Mb0 ag Z) bb Z Z Z Z Z Z Z Z (fun bq bh aN => ⟨_, (.there .here), ?_⟩))
    refine Ow.shift (Re0 (Sd ?_))
    exact Ea Z<|fb<|fa<|Em Z<|Er (wI (h + 1)) Z<|Ea Z<|fb<|Sd<|⟨_, by exact R4, _, Nat.lt_succ_self _, bq, bw, bh, (wI (h + 1)), Z, Z, Z, (ai ▸ H), aN⟩
   ·intro O
    have H := f0 (btf O) H
    refine fa<|Em Z<|?_
    have ah : RowR Ty.u8 K [[(.int .u8 0)]] [0] := RowR.cons Z (RowR.nil)
    refine fe Z (gh (T := Ty.u8) (rows := [[(.int .u8 0)]]) (l := [0]) Z Z Z ah Z Z Z Z Z Z Z Z (fun bY => ?_))
    obtain ⟨bx, bc, H⟩ := bnd H
    refine fe Z (gZ (T := Ty.u8) (bytes := 1) Z Z Z Mb1 P (SrcT.row Mb0 ah Z) bc Z Z Z Z Z Z Z Z (fun br bi aO => ⟨_, (.there .here), ?_⟩))
    refine Ow.shift (Re0 (Sd ?_))
    exact Ea Z<|fb<|fa<|Em Z<|Er (wI (h + 1)) Z<|Ea Z<|fb<|Sd<|⟨_, by exact R4, _, Nat.lt_succ_self _, br, bx, bi, (wI (h + 1)), Z, Z, Z, (ai ▸ H), aO⟩
  ·intro m
   obtain ⟨m, H⟩ := If m H
   exact f5<|Sd<|⟨_, by exact R2, M, B, F, Z, Z, H, P⟩
 rintro _ bE _ aF ⟨L, A, E, rfl, rfl, H, aL⟩
 unfold su at H
 refine fz (fun d a b => ∃ (X : SV) (S : ad2) (V : List (List Value)), [(5, (sv X))] = d ∧ (.row (sv X) 5 1 V.flatten) :: G = b ∧ wY S = some f ∧ RowR Ty.u8 a V S) ?_ ?_
 ·refine fc<|fa<|Ea Z<|fb<|fA<|?_
  refine fY (fun au d a b => ∃ (t : SV) (p : ad2) (r : List (List Value)) (e : Int), [(1, (sv g)), (5, (sv t)), (7, (Vi e))] = d ∧ (.row (sv t) 5 1 r.flatten) :: G = b ∧ lp2 (xa p1) au p e = some f ∧ RowR Ty.u8 a r p) BIG ?_ ?_
  ·exact Sd ⟨_, by exact R3, L, A, E, 0, Z, Z, H, aL⟩
  rintro au _ bz _ aD ⟨t, p, r, e, rfl, rfl, H, ac⟩
  obtain ⟨bN, x, rfl, aW, H⟩ := jC H
  unfold xa at H
  refine fc<|fc<|fa<|Em Z<|Em Z<|?_
  have n := (aY.mono aF).mono aD
  refine Eq Z (ge (T := fH) n Z Z)<|Ec Z<|fb<|?_
  refine fm Z ?_ ?_
  ·intro i
   obtain ⟨i, H⟩ := It i H
   refine ft ?_
   refine fz (fun d a b => ∃ (I : SV) (y : ad2) (C : List (List Value)), [(1, (sv g)), (5, (sv I)), (7, (Vi e))] = d ∧ (.row (sv I) 5 1 C.flatten) :: G = b ∧ wZ p1 e x y = some f ∧ RowR Ty.u8 a C y) ?_ ?_
   ·refine fA<|fc<|fa<|Em Z<|Em Z<|Em Z<|?_
    obtain ⟨ax, am, H⟩ := bnd H
    obtain ⟨bQ, aZ, aQ⟩ := Slr.at n am
    obtain ⟨bj, rfl, a3⟩ := aZ
    refine Eq Z (Qi (T := fH) n am Z)<|EF 1 Z<|El (sv bj) Z (Rdc.k aQ Z)<|Eq Z (ge (T := Ty.u64) a3 Z Z)<|Eq Z (kD (c := wU (ax.buffer.length : Int)) Z Z Z Z)<|?_
    obtain ⟨ay, a6, H⟩ := bnd H
    refine fe Z (Ek Tryz.call83 Z (yT p t r (wU (ax.buffer.length : Int)) ay a6 _ _ ac) ?_)
    rintro _ aa _ ab ⟨bk, bd, rfl, rfl, aj⟩
    refine Ea Z<|fb<|?_
    refine fz (fun d a b => ∃ (J : SV) (z : ad2) (D : List (List Value)), [(1, (sv g)), (5, (sv J)), (7, (Vi e))] = d ∧ aa = a ∧ (.row (sv J) 5 1 D.flatten) :: G = b ∧ pa p1 e x z = some f ∧ RowR Ty.u8 a D z) ?_ ?_
    ·refine fc<|fa<|Em Z<|Em Z<|?_
     obtain ⟨bs, an, H⟩ := bnd H
     have ak := n.mono ab
     obtain ⟨bR, a0, aR⟩ := Slr.at ak an
     obtain ⟨bU, rfl, bK⟩ := a0
     refine Eq Z (Qi (T := fH) ak an Z)<|EF 2 Z<|El (.bool bs.closed) Z (Rdc.k aR Z)<|fb<|?_
     refine fm Z ?_ ?_
     ·intro N
      have H := ift N H
      refine fa<|Em Z<|?_
      have ad : RowR Ty.u8 aa [[(.int .u8 1)]] [1] := RowR.cons Z (RowR.nil)
      refine fe Z (gh (T := Ty.u8) (rows := [[(.int .u8 1)]]) (l := [1]) Z Z Z ad Z Z Z Z Z Z Z Z (fun bV => ?_))
      obtain ⟨bt, a7, H⟩ := bnd H
      refine fe Z (gZ (T := Ty.u8) (bytes := 1) Z Z Z Mb1 aj (SrcT.row Mb0 ad Z) a7 Z Z Z Z Z Z Z Z (fun bl be aI => ⟨_, (.there .here), ?_⟩))
      refine Ow.shift (Re0 (Sd ?_))
      exact Ea Z<|fb<|Sd<|⟨_, by exact R3, bl, bt, be, Z, Z, Z, H, aI⟩
     ·intro N
      have H := f0 (btf N) H
      exact ft<|Sd<|⟨_, by exact R3, bk, ay, bd, Z, Z, Z, H, aj⟩
    rintro _ _ _ - ⟨J, z, D, rfl, rfl, rfl, H, aH⟩
    unfold pa at H
    refine fz (fun d a b => ∃ (W : SV) (R : ad2) (U : List (List Value)), [(1, (sv g)), (5, (sv W)), (7, (Vi e))] = d ∧ (.row (sv W) 5 1 U.flatten) :: G = b ∧ w8 p1 e x R = some f ∧ RowR Ty.u8 a U R) ?_ ?_
    ·refine fc<|fa<|Ea Z<|fb<|fA<|?_
     refine fY (fun av d a b => ∃ (u : SV) (q : ad2) (s : List (List Value)) (o : Int), [(1, (sv g)), (5, (sv u)), (7, (Vi e)), (8, (Vi o))] = d ∧ (.row (sv u) 5 1 s.flatten) :: G = b ∧ lp2 (w9 p1 e x) av q o = some f ∧ RowR Ty.u8 a s q) BIG ?_ ?_
     ·exact Sd ⟨_, by exact R4, J, z, D, 0, Z, Z, H, aH⟩
     rintro av _ bA _ aE ⟨u, q, s, o, rfl, rfl, H, ae⟩
     obtain ⟨bO, bL, rfl, aX, H⟩ := jC H
     unfold w9 at H
     refine fc<|fc<|fa<|Em Z<|Em Z<|Em Z<|?_
     obtain ⟨bZ, ao, H⟩ := bnd H
     have w := (n.mono ab).mono aE
     obtain ⟨bS, a1, aS⟩ := Slr.at w ao
     obtain ⟨bm, rfl, a4⟩ := a1
     refine Eq Z (Qi (T := fH) w ao Z)<|EF 1 Z<|El (sv bm) Z (Rdc.k aS Z)<|Eq Z (ge (T := Ty.u64) a4 Z Z)<|Ec Z<|fb<|?_
     refine fm Z ?_ ?_
     ·intro j
      obtain ⟨j, H⟩ := It j H
      refine ft<|fc<|fA<|fa<|Em Z<|Em Z<|Em Z<|?_
      obtain ⟨b0, ap, H⟩ := bnd H
      obtain ⟨bT, a2, aT⟩ := Slr.at w ap
      obtain ⟨bn, rfl, al⟩ := a2
      refine Eq Z (Qi (T := fH) w ap Z)<|EF 1 Z<|El (sv bn) Z (Rdc.k aT Z)<|Em Z<|?_
      obtain ⟨az, aq, H⟩ := bnd H
      obtain ⟨_, rfl, aU⟩ := Slr.at al aq
      refine Eq Z (Qi (T := Ty.u64) al aq Z)<|El (.int .u64 az) Z (Rdc.k aU Z)<|?_
      obtain ⟨aA, a8, H⟩ := bnd H
      refine fe Z (Ek Tryz.call83 Z (yT q u s az aA a8 _ _ ae) ?_)
      rintro _ bB _ bG ⟨bo, bf, rfl, rfl, a5⟩
      exact Ea Z<|fb<|fa<|Em Z<|Er (wI (o + 1)) Z<|Ea Z<|fb<|Sd<|⟨_, by exact R4, _, Nat.lt_succ_self _, bo, aA, bf, (wI (o + 1)), Z, Z, (aX ▸ H), a5⟩
     ·intro j
      obtain ⟨j, H⟩ := If j H
      exact f5<|Sd<|⟨_, by exact R3, u, q, s, Z, Z, H, ae⟩
    rintro _ aC _ bH ⟨W, R, U, rfl, rfl, H, aJ⟩
    unfold w8 at H
    refine fa<|Em Z<|?_
    have af : RowR Ty.u8 aC [[(.int .u8 2)]] [2] := RowR.cons Z (RowR.nil)
    refine fe Z (gh (T := Ty.u8) (rows := [[(.int .u8 2)]]) (l := [2]) Z Z Z af Z Z Z Z Z Z Z Z (fun bW => ?_))
    obtain ⟨bu, a9, H⟩ := bnd H
    refine fe Z (gZ (T := Ty.u8) (bytes := 1) Z Z Z Mb1 aJ (SrcT.row Mb0 af Z) a9 Z Z Z Z Z Z Z Z (fun bp bg aK => ⟨_, (.there .here), ?_⟩))
    refine Ow.shift (Re0 (Sd ?_))
    exact Ea Z<|fb<|Sd<|⟨_, by exact R3, bp, bu, bg, Z, Z, H, aK⟩
   rintro _ bC _ bI ⟨I, y, C, rfl, rfl, H, aG⟩
   unfold wZ at H
   exact fa<|Em Z<|Er (wI (e + 1)) Z<|Ea Z<|fb<|Sd<|⟨_, by exact R3, _, Nat.lt_succ_self _, I, y, C, (wI (e + 1)), Z, Z, (aW ▸ H), aG⟩
  ·intro i
   obtain ⟨i, H⟩ := If i H
   exact f5<|Sd<|⟨_, by exact R1, t, p, r, Z, Z, H, ac⟩
 rintro _ bD _ bJ ⟨X, S, V, rfl, rfl, H, aP⟩
 unfold wY at H
 refine fc<|fa<|Em Z<|?_
 obtain ⟨aB, ba, H⟩ := bnd H
 refine Eq Z (Dk Mb0 aP ba Z Z Z Z)<|Ea Z<|fb<|fx<|?_
 obtain bF := gq H
 subst f
 refine ⟨(.inl Z), [(.string aB)], ⟨(.string aB), _, Z, Z, Z⟩, ?_⟩
 exact Re0<|Sd<|⟨Z, Z⟩
theorem D7 (d : Nat) (z : ae8) (j : SV) (y : ad8) (i : SV) (x : ae5) (h : SV) (w : af8) (g : SV) (u : ae6) (f : SV) (A : ad7) (k : SV) (b c : Bool) (B : ae3) (a : SV) (s : List (List Value)) (p1 : ByteArray) (m : Bool) (n : ae3) (H : sx z y x w u A b c B p1 = some (m, n)) (K : Kp) (G : List Ent) (ad : Slr (Ty.sl gR) K (sv j) z) (ac : Slr f4 K (sv i) y) (ab : Slr gy K (sv h) x) (aa : Slr (Ty.sl Ty.bool) K (sv g) w) (Y : Slr Ty.bool K (sv f) u) (ae : Slr fP K (sv k) A) (e : RowR Ty.str K s B) :
  Fc Tryz.prog 47 #[(Vp d), (.string p1)] K ((.blk d 76 [(sv j), (sv i), (sv h), (sv g), (sv f), (sv k), (.bool b), (.bool c), (sv a)]) :: (.row (sv a) 9 1 s.flatten) :: G) (fun v t o => ∃ (L : SV) (J : List (List Value)), v = (.bool m) ∧ (.blk d 76 [(sv j), (sv i), (sv h), (sv g), (sv f), (sv k), (.bool b), (.bool c), (sv L)]) :: (.row (sv L) 9 1 J.flatten) :: G = o ∧ RowR Ty.str t J n) := by
 refine fN Tryz.func47 Z Tryz.ntmps47 Tryz.results47 Z ?_
 unfold sx at H
 refine fc<|fa<|Ea Z<|fb<|?_
 refine fz (fun C t o => [(0, (Vp d)), (1, (.string p1))] = C ∧ (.blk d 76 [(sv j), (sv i), (sv h), (sv g), (sv f), (sv k), (.bool b), (.bool c), (sv a)]) :: (.row (sv a) 9 1 s.flatten) :: G = o ∧ xd p1 z y x w u A b c B = some (m, n)) ?_ ?_
 ·refine fc<|fa<|Ea Z<|fb<|fA<|?_
  refine fY (fun n77 C t o => ∃ (r : Int), [(0, (Vp d)), (1, (.string p1)), (5, (Vi r))] = C ∧ K = t ∧ (.blk d 76 [(sv j), (sv i), (sv h), (sv g), (sv f), (sv k), (.bool b), (.bool c), (sv a)]) :: (.row (sv a) 9 1 s.flatten) :: G = o ∧ lp1 (xe p1 z y x w u A b c B) n77 r = some (m, n)) BIG ?_ ?_
  ·exact Pu1<|Pu1<|Sd<|⟨_, by exact R3, 0, Z, Z, Z, H⟩
  rintro n77 _ _ _ - ⟨r, rfl, rfl, rfl, H⟩
  obtain ⟨ag, af, rfl, R, H⟩ := lr H
  unfold xe at H
  refine fc<|fc<|fa<|Em Z<|Em Z<|Eq Z (fC Z)<|EF 8 Z<|El (sv a) Z (Rb0 Z)<|Eq Z (lh (T := Ty.str) Mb1 e Z Z Z)<|Ec Z<|fb<|?_
  refine fm Z ?_ ?_
  ·intro p
   obtain ⟨p, H⟩ := It p H
   refine ft<|fc<|fA<|fc<|fa<|Em Z<|Eq Z (fC Z)<|EF 8 Z<|El (sv a) Z (Rb0 Z)<|Em Z<|?_
   obtain ⟨X, I, H⟩ := bnd H
   obtain ⟨ah, F, S⟩ := RowR.at e I
   obtain rfl := S
   refine Eq Z (gP (T := Ty.str) Mb1 e F (fR I).1 Z Z Z Z Z)<|El (.string X) Z (ib (T := Ty.str) Mb1 e F Z Z)<|Em Z<|Eq Z (Dl Z Z)<|fb<|?_
   refine fm Z ?_ ?_
   ·intro q
    obtain ⟨q, H⟩ := It q H
    refine fc<|fa<|Ea Z<|fb<|fx<|?_
    obtain ⟨N, O⟩ := ic H
    subst m n
    refine ⟨(.inl Z), [(.bool true)], ⟨(.bool true), _, Z, Z, Z⟩, ?_⟩
    exact Pu1<|Pu1<|Sd<|⟨a, s, Z, Z, e⟩
   ·intro q
    obtain ⟨q, H⟩ := If q H
    exact ft<|fa<|Em Z<|Er (wI (r + 1)) Z<|Ea Z<|fb<|Pu1<|Pu1<|Sd<|⟨_, by exact R3, _, Nat.lt_succ_self _, (wI (r + 1)), Z, Z, Z, (R ▸ H)⟩
  ·intro p
   obtain ⟨p, H⟩ := If p H
   exact f5<|Pu1<|Pu1<|Sd<|⟨_, by exact R2, Z, Z, H⟩
 rintro _ M _ P ⟨rfl, rfl, H⟩
 unfold xd at H
 refine fc<|fa<|Em Z<|Em Z<|Eq Z (fC Z)<|EF 8 Z<|El (sv a) Z (Rb0 Z)<|Em Z<|?_
 have E : RowR Ty.str M [[(.string p1)]] [p1] := RowR.cons Z (RowR.nil)
 refine fe Z (gh (T := Ty.str) (rows := [[(.string p1)]]) (l := [p1]) Z Z Z E Z Z Z Z Z Z Z Z (fun ai => ?_))
 obtain ⟨aj, V, H⟩ := bnd H
 have U := e.mono P
 refine fe Z (gZ (T := Ty.str) (bytes := 16) Z Z Z Mb2 U (SrcT.row Mb0 E Z) V Z Z Z Z Z Z Z Z (fun D W Q => ⟨_, (.there (.there .here)), ?_⟩))
 refine Ow.shift (Re0 (Sd ?_))
 refine Eq Z (fC Z)<|EF 8 Z<|?_
 refine fe Z (So [(sv D)] [(sv j), (sv i), (sv h), (sv g), (sv f), (sv k), (.bool b), (.bool c), (sv D)] Z .here Z ?_)
 refine fb<|fc<|fa<|Ea Z<|fb<|fx<|?_
 obtain ⟨N, O⟩ := ic H
 subst m n
 refine ⟨(.inl Z), [(.bool false)], ⟨(.bool false), _, Z, Z, Z⟩, ?_⟩
 exact Pu1<|Pu1<|Sd<|⟨D, W, Z, Z, Q⟩
theorem yU (d : Nat) (w : ae8) (p : SV) (u : ad8) (o : SV) (t : ae5) (n : SV) (s : af8) (h : SV) (r : ae6) (g : SV) (x : ad7) (q : SV) (a c : Bool) (y : ae3) (b : SV) (m : List (List Value)) (p1 : ae6) (B : SV) (p2 : Int) (f : Bool) (H : pd w u t s r x a c y p1 p2 = some f) (K : Kp) (G : List Ent) (ao : Slr (Ty.sl gR) K (sv p) w) (an : Slr f4 K (sv o) u) (am : Slr gy K (sv n) t) (O : Slr (Ty.sl Ty.bool) K (sv h) s) (N : Slr Ty.bool K (sv g) r) (ap : Slr fP K (sv q) x) (aq : RowR Ty.str K m y) (A : Slr Ty.bool K (sv B) p1) :
  Fc Tryz.prog 49 #[(Vp d), (sv B), (Vi p2)] K ((.blk d 76 [(sv p), (sv o), (sv n), (sv h), (sv g), (sv q), (.bool a), (.bool c), (sv b)]) :: (.row (sv b) 9 1 m.flatten) :: G) (fun v i e => v = (.bool f) ∧ (.blk d 76 [(sv p), (sv o), (sv n), (sv h), (sv g), (sv q), (.bool a), (.bool c), (sv b)]) :: (.row (sv b) 9 1 m.flatten) :: G = e) := by
 refine fN Tryz.func49 Z Tryz.ntmps49 Tryz.results49 Z ?_
 unfold pd at H
 refine fc<|fa<|Ea Z<|fb<|fc<|?_
 refine fz (fun j i e => ∃ (J : Bool), [(0, (Vp d)), (1, (sv B)), (2, (Vi p2)), (27, (.bool J))] = j ∧ K = i ∧ (.blk d 76 [(sv p), (sv o), (sv n), (sv h), (sv g), (sv q), (.bool a), (.bool c), (sv b)]) :: (.row (sv b) 9 1 m.flatten) :: G = e ∧ ng p1 p2 w u t s r x a c y J = some f) ?_ ?_
 ·refine fa<|Em Z<|Em Z<|?_
  obtain ⟨ai, Q, H⟩ := bnd H
  obtain ⟨_, rfl, Y⟩ := Slr.at A Q
  refine Eq Z (Qi (T := Ty.bool) A Q Z)<|El (.bool ai) Z (Rdc.k Y Z)<|Em Z<|?_
  refine Ee Z ?_ ?_
  ·intro C
   have H := ift C H
   exact Ez Z<|Ez Z<|Ez Z<|Ez Z<|Ez Z<|ga Z Z Z Z rfl<|ga Z Z Z Z rfl<|ga Z Z Z Z rfl<|ga Z Z Z Z rfl<|ga Z Z Z Z rfl<|ga Z Z Z Z rfl<|ga Z Z Z Z rfl<|ga Z Z Z Z rfl<|Ez Z<|Et Z<|fb<|Pu1<|Pu1<|Sd<|⟨_, by exact R4, true, Z, Z, Z, H⟩
  ·intro C
   have H := f0 (btf C) H
   refine Vm Z<|Vq Z (fC Z)<|VF 6 Z<|Vl (.bool a) Z (Rb0 Z)<|Vm Z<|?_
   refine Ee Z ?_ ?_
   ·intro D
    have H := ift D H
    refine Vm Z<|Vq Z (fC Z)<|VF 4 Z<|Vl (sv g) Z (Rb0 Z)<|Vm Z<|?_
    obtain ⟨W, R, H⟩ := bnd H
    obtain ⟨_, rfl, aa⟩ := Slr.at N R
    exact Vq Z (Qi (T := Ty.bool) N R Z)<|Vl (.bool W) Z (Rdc.k aa Z)<|Vq Z (gf Z)<|Vt Z<|Ef Z<|fb<|Pu1<|Pu1<|Sd<|⟨_, by exact R4, (!(W)), Z, Z, Z, H⟩
   ·intro D
    have H := f0 (btf D) H
    exact Ez Z<|Ez Z<|Ez Z<|Ez Z<|Ez Z<|Ez Z<|Ez Z<|Ez Z<|Vf Z<|Ef Z<|fb<|Pu1<|Pu1<|Sd<|⟨_, by exact R4, false, Z, Z, Z, H⟩
 rintro _ _ _ - ⟨J, rfl, rfl, rfl, H⟩
 unfold ng at H
 refine fm Z ?_ ?_
 ·intro E
  have H := ift E H
  refine fc<|fa<|Ea Z<|fb<|fx<|?_
  obtain M := gq H
  subst f
  refine ⟨(.inl Z), [(.bool false)], ⟨(.bool false), _, Z, Z, Z⟩, ?_⟩
  exact Pu1<|Pu1<|Sd<|⟨Z, Z⟩
 ·intro E
  have H := f0 (btf E) H
  refine ft ?_
  refine fz (fun j i e => [] = j ∧ (.blk d 76 [(sv p), (sv o), (sv n), (sv h), (sv g), (sv q), (.bool a), (.bool c), (sv b)]) :: (.row (sv b) 9 1 m.flatten) :: G = e ∧ xf w u t s r x a c y = some f) ?_ ?_
  ·refine fc<|fa<|Ea Z<|fb<|fA<|?_
   refine fY (fun n218 j i e => ∃ (l : Int), [(0, (Vp d)), (1, (sv B)), (2, (Vi p2)), (7, (Vi l))] = j ∧ K = i ∧ (.blk d 76 [(sv p), (sv o), (sv n), (sv h), (sv g), (sv q), (.bool a), (.bool c), (sv b)]) :: (.row (sv b) 9 1 m.flatten) :: G = e ∧ lp1 (xg p1 p2 w u t s r x a c y) n218 l = some f) BIG ?_ ?_
   ·exact Pu1<|Pu1<|Sd<|⟨_, by exact R4, 0, Z, Z, Z, H⟩
   rintro n218 _ _ _ - ⟨l, rfl, rfl, rfl, H⟩
   obtain ⟨ar, ag, rfl, ae, H⟩ := lr H
   unfold xg at H
   refine fc<|fc<|fa<|Em Z<|Em Z<|Eq Z (ge (T := Ty.bool) A Z Z)<|Ec Z<|fb<|?_
   refine fm Z ?_ ?_
   ·intro z
    obtain ⟨z, H⟩ := It z H
    refine ft<|fc<|fA<|?_
    refine fz (fun j i e => ∃ (L : Bool), [(0, (Vp d)), (1, (sv B)), (2, (Vi p2)), (7, (Vi l)), (50, (.bool L))] = j ∧ K = i ∧ (.blk d 76 [(sv p), (sv o), (sv n), (sv h), (sv g), (sv q), (.bool a), (.bool c), (sv b)]) :: (.row (sv b) 9 1 m.flatten) :: G = e ∧ to p1 p2 l w u t s r x a c y ag L = some f) ?_ ?_
    ·refine fa<|Em Z<|Eq Z (fC Z)<|EF 3 Z<|El (sv h) Z (Rb0 Z)<|Em Z<|?_
     obtain ⟨av, S, H⟩ := bnd H
     obtain ⟨au, af, ab⟩ := Slr.at O S
     obtain ⟨ah, rfl, P⟩ := af
     refine Eq Z (Qi (T := (Ty.sl Ty.bool)) O S Z)<|El (sv ah) Z (Rdc.k ab Z)<|Em Z<|?_
     obtain ⟨aj, U, H⟩ := bnd H
     obtain ⟨_, rfl, ac⟩ := Slr.at P U
     refine Eq Z (Qi (T := Ty.bool) P U Z)<|El (.bool aj) Z (Rdc.k ac Z)<|Em Z<|?_
     refine Ee Z ?_ ?_
     ·intro F
      have H := ift F H
      refine Vm Z<|Vm Z<|?_
      obtain ⟨X, V, H⟩ := bnd H
      obtain ⟨_, rfl, ad⟩ := Slr.at A V
      exact Vq Z (Qi (T := Ty.bool) A V Z)<|Vl (.bool X) Z (Rdc.k ad Z)<|Vq Z (gf Z)<|Et Z<|fb<|Pu1<|Pu1<|Sd<|⟨_, by exact R5, (!(X)), Z, Z, Z, H⟩
     ·intro F
      have H := f0 (btf F) H
      exact Ez Z<|Ez Z<|Ez Z<|Ez Z<|Ez Z<|Ef Z<|fb<|Pu1<|Pu1<|Sd<|⟨_, by exact R5, false, Z, Z, Z, H⟩
    rintro _ _ _ - ⟨L, rfl, rfl, rfl, H⟩
    unfold to at H
    refine fm Z ?_ ?_
    ·intro I
     have H := ift I H
     refine fc<|fa<|Ea Z<|fb<|fx<|?_
     obtain M := gq H
     subst f
     refine ⟨(.inl Z), [(.bool false)], ⟨(.bool false), _, Z, Z, Z⟩, ?_⟩
     exact Pu1<|Pu1<|Sd<|⟨Z, Z⟩
    ·intro I
     have H := f0 (btf I) H
     exact ft<|fa<|Em Z<|Er (wI (l + 1)) Z<|Ea Z<|fb<|Pu1<|Pu1<|Sd<|⟨_, by exact R4, _, Nat.lt_succ_self _, (wI (l + 1)), Z, Z, Z, (ae ▸ H)⟩
   ·intro z
    obtain ⟨z, H⟩ := If z H
    exact f5<|Pu1<|Pu1<|Sd<|⟨[], trivial, Z, Z, H⟩
  rintro _ ak _ al ⟨rfl, rfl, H⟩
  unfold xf at H
  refine fc<|fa<|Ea Z<|fb<|fx<|?_
  obtain M := gq H
  subst f
  refine ⟨(.inl Z), [(.bool true)], ⟨(.bool true), _, Z, Z, Z⟩, ?_⟩
  exact Pu1<|Pu1<|Sd<|⟨Z, Z⟩
theorem D8 (e : Nat) (x : ae8) (n : SV) (w : ad8) (m : SV) (u : ae5) (j : SV) (t : af8) (i : SV) (s : ae6) (a : SV) (y : ad7) (b : SV) (f g : Bool) (z : ae3) (c : SV) (h : List (List Value)) (p1 : ad1) (C : SV) (p2 : Int) (o : ad7) (H : sy x w u t s y f g z p1 p2 = some o) (K : Kp) (G : List Ent) (U : Slr (Ty.sl gR) K (sv n) x) (S : Slr f4 K (sv m) w) (R : Slr gy K (sv j) u) (Q : Slr (Ty.sl Ty.bool) K (sv i) t) (q : Slr Ty.bool K (sv a) s) (r : Slr fP K (sv b) y) (V : RowR Ty.str K h z) (W : Slr fH K (sv C) p1) :
  Fc Tryz.prog 50 #[(Vp e), (sv C), (Vi p2)] K ((.blk e 76 [(sv n), (sv m), (sv j), (sv i), (sv a), (sv b), (.bool f), (.bool g), (sv c)]) :: (.row (sv c) 9 1 h.flatten) :: G) (fun v M L => ∃ (D : SV), v = (sv D) ∧ (.blk e 76 [(sv n), (sv m), (sv j), (sv i), (sv a), (sv b), (.bool f), (.bool g), (sv c)]) :: (.tok 38 5 [(sv D)]) :: (.row (sv c) 9 1 h.flatten) :: G = L ∧ Slr fP M (sv D) o) := by
 refine fN Tryz.func50 Z Tryz.ntmps50 Tryz.results50 Z ?_
 unfold sy at H
 refine fc<|fa<|Ea Z<|fb<|fc<|fc<|fa<|Em Z<|Eq Z (fC Z)<|EF 4 Z<|El (sv a) Z (Rb0 Z)<|Em Z<|?_
 obtain ⟨ag, F, H⟩ := bnd H
 obtain ⟨_, rfl, O⟩ := Slr.at q F
 refine Eq Z (Qi (T := Ty.bool) q F Z)<|El (.bool ag) Z (Rdc.k O Z)<|fb<|?_
 refine fm Z ?_ ?_
 ·intro p
  have H := ift p H
  refine fc<|fa<|Em Z<|Eq Z (fC Z)<|EF 5 Z<|El (sv b) Z (Rb0 Z)<|Em Z<|?_
  obtain ⟨d, I, H⟩ := bnd H
  obtain ⟨_, rfl, P⟩ := Slr.at r I
  refine Eq Z (Qi (T := fP) r I Z)<|EL 5 (ff d) Z (Rdc.k P Z)<|?_
  have E : RowR fP K [(ff d)] [d] := RowR.cons Z (RowR.nil)
  refine fe Z (gh (T := fP) (rows := [(ff d)]) (l := [d]) Z Z Z E Z Z Z Z Z Z Z Z (fun A => ?_))
  refine Ea Z<|fb<|fx<|?_
  obtain N := gq H
  subst o
  refine ⟨(.inl Z), [(sv A)], ⟨(sv A), _, Z, Z, Z⟩, ?_⟩
  refine Shift.settle (T := fP) .here E Z ?_
  intro ai ak X
  exact Pu2<|Pu1<|Pu2<|Sd<|⟨A, Z, Z, X⟩
 ·intro p
  have H := f0 (btf p) H
  refine ft<|fc<|fa<|Em Z<|Em Z<|Em Z<|?_
  obtain ⟨J, ac, H⟩ := bnd H
  refine Ow.shift (Pu1 (Sd ?_))
  refine Ow.shift (Pu1 (Sd ?_))
  refine fe Z (Ek Tryz.call52 Z (np e x n w m u j t i s a y b f g z c h p2 J ac _ _ U S R Q q r V) ?_)
  rintro _ _ _ - ⟨ae, af, rfl, rfl, rfl, Y, aa⟩
  obtain ⟨ah, ad, H⟩ := bnd H
  refine fe Z (Ek Tryz.call84 Z (yR p1 C J ae af ah ad _ _ W Y aa) ?_)
  rintro _ aj _ al ⟨B, rfl, rfl, ab⟩
  refine Ea Z<|fb<|fx<|?_
  obtain N := gq H
  subst o
  refine ⟨(.inl Z), [(sv B)], ⟨(sv B), _, Z, Z, Z⟩, ?_⟩
  exact Pu2<|Pu1<|Pu2<|Sd<|⟨B, Z, Z, ab⟩
theorem xN (p0 : ae6) (h : SV) (p1 : Int) (d : ae6) (H : tp p0 p1 = some d) (K : Kp) (G : List Ent) (m : Slr Ty.bool K (sv h) p0) :
  Fc Tryz.prog 53 #[(sv h), (Vi p1)] K (G) (fun v e j => ∃ (i : SV) (g : List (List Value)), v = (sv i) ∧ K = e ∧ (.row (sv i) 4 1 g.flatten) :: G = j ∧ RowR Ty.bool e g d) := by
 refine fN Tryz.func53 Z Tryz.ntmps53 Tryz.results53 Z ?_
 unfold tp at H
 refine fc<|fa<|Ea Z<|fb<|fc<|fa<|Em Z<|?_
 have k : RowR Ty.bool K [] [] := RowR.nil
 refine Ow.shift (Shift.nilRow 4 1 (Sd ?_))
 obtain ⟨x15, o, H⟩ := bnd H
 refine fe Z (gZ (T := Ty.bool) (bytes := 1) Z Z Z Mb0 k (SrcT.sl m) o Z Z Z Z Z Z Z Z (fun c p a => ⟨_, .here, ?_⟩))
 refine Ea Z<|fb<|fc<|fa<|Em Z<|Em Z<|?_
 obtain ⟨s, f, H⟩ := bnd H
 obtain ⟨r22, b, n⟩ := RowR.at a f
 obtain rfl := n
 refine Eq Z (gP (T := Ty.bool) Mb0 a b (fR f).1 Z Z Z Z Z) ?_
 refine fe Z (gX (T := Ty.bool) (vs := [(.bool true)]) (r' := [(.bool true)]) (l' := (gb x15 p1 true)) Z Z Z Z Z .here a b Z Z Z (RowR.set p1 a Z) (fun l => ?_))
 have r := iV b (v := [(.bool true)])
 refine fb<|fc<|fa<|Em Z<|Ea Z<|fb<|fx<|?_
 obtain q := gq H
 subst d
 refine ⟨(.inl Z), [(sv c)], ⟨(sv c), _, Z, Z, Z⟩, ?_⟩
 exact Sd ⟨c, (p.set p1.toNat [(.bool true)]), Z, Z, Z, l⟩
theorem D9 (j : Nat) (I : ae8) (y : SV) (F : ad8) (x : SV) (E : ae5) (u : SV) (D : af8) (t : SV) (C : ae6) (a : SV) (J : ad7) (b : SV) (h i : Bool) (L : ae3) (e : SV) (s : List (List Value)) (p1 : ad1) (ai : SV) (p2 p3 : Int) (O : Bool) (H : sA I F E D C J h i L p1 p2 p3 = some O) (K : Kp) (G : List Ent) (aw : Slr (Ty.sl gR) K (sv y) I) (av : Slr f4 K (sv x) F) (au : Slr gy K (sv u) E) (ar : Slr (Ty.sl Ty.bool) K (sv t) D) (A : Slr Ty.bool K (sv a) C) (P : Slr fP K (sv b) J) (ax : RowR Ty.str K s L) (a4 : Slr fH K (sv ai) p1) :
  Fc Tryz.prog 54 #[(Vp j), (sv ai), (Vi p2), (Vi p3)] K ((.blk j 76 [(sv y), (sv x), (sv u), (sv t), (sv a), (sv b), (.bool h), (.bool i), (sv e)]) :: (.row (sv e) 9 1 s.flatten) :: G) (fun v U z => v = (.bool O) ∧ (.blk j 76 [(sv y), (sv x), (sv u), (sv t), (sv a), (sv b), (.bool h), (.bool i), (sv e)]) :: (.row (sv e) 9 1 s.flatten) :: G = z) := by
 refine fN Tryz.func54 Z Tryz.ntmps54 Tryz.results54 Z ?_
 unfold sA at H
 refine fc<|fa<|Ea Z<|fb<|fc<|fa<|Em Z<|Em Z<|Em Z<|?_
 obtain ⟨aH, a9, H⟩ := bnd H
 refine Ow.shift (Pu1 (Sd ?_))
 refine Ow.shift (Pu1 (Sd ?_))
 refine fe Z (Ek Tryz.call52 Z (np j I y F x E u D t C a J b h i L e s p2 aH a9 _ _ aw av au ar A P ax) ?_)
 rintro _ _ _ - ⟨bd, be, rfl, rfl, rfl, a5, a6⟩
 refine Em Z<|Em Z<|?_
 obtain ⟨aI, ba, H⟩ := bnd H
 refine Ow.shift (Pu1 (Sd ?_))
 refine Ow.shift (Pu1 (Sd ?_))
 refine fe Z (Ek Tryz.call52 Z (np j I y F x E u D t C a J b h i L e s p3 aI ba _ _ aw av au ar A P ax) ?_)
 rintro _ _ _ - ⟨bf, bg, rfl, rfl, rfl, a7, a8⟩
 obtain ⟨ap, bb, H⟩ := bnd H
 refine fe Z (Ek Tryz.call86 Z (Ba p1 ai aH bd be aI bf bg ap bb _ _ a4 a5 a6 a7 a8) ?_)
 rintro _ aq _ p ⟨af, rfl, rfl, g⟩
 refine Ea Z<|fb<|?_
 refine fz (fun V U z => [] = V ∧ (.blk j 76 [(sv y), (sv x), (sv u), (sv t), (sv a), (sv b), (.bool h), (.bool i), (sv e)]) :: (.row (sv e) 9 1 s.flatten) :: G = z ∧ xh I F E D C J h i L = some O) ?_ ?_
 ·refine fc<|fa<|Ea Z<|fb<|fA<|?_
  refine fY (fun aG V U z => ∃ (B : Int), [(0, (Vp j)), (2, (Vi p2)), (3, (Vi p3)), (9, (sv af)), (10, (Vi B))] = V ∧ aq = U ∧ (.blk j 76 [(sv y), (sv x), (sv u), (sv t), (sv a), (sv b), (.bool h), (.bool i), (sv e)]) :: (.tok 131 10 [(sv af)]) :: (.row (sv e) 9 1 s.flatten) :: G = z ∧ lp1 (xi p2 p3 ap I F E D C J h i L) aG B = some O) BIG ?_ ?_
  ·exact Pu2<|Pu1<|Pu2<|Sd<|⟨_, by exact R5, 0, Z, Z, Z, H⟩
  rintro aG _ _ _ - ⟨B, rfl, rfl, rfl, H⟩
  obtain ⟨bj, bc, rfl, a3, H⟩ := lr H
  unfold xi at H
  refine fc<|fc<|fa<|Em Z<|Em Z<|Eq Z (ge (T := gu) g Z Z)<|Ec Z<|fb<|?_
  refine fm Z ?_ ?_
  ·intro W
   obtain ⟨W, H⟩ := It W H
   refine ft<|fc<|fA<|?_
   refine fz (fun V U z => ∃ (ah : Bool), [(0, (Vp j)), (2, (Vi p2)), (3, (Vi p3)), (9, (sv af)), (10, (Vi B)), (72, (.bool ah))] = V ∧ aq = U ∧ (.blk j 76 [(sv y), (sv x), (sv u), (sv t), (sv a), (sv b), (.bool h), (.bool i), (sv e)]) :: (.tok 131 10 [(sv af)]) :: (.row (sv e) 9 1 s.flatten) :: G = z ∧ ql p2 p3 ap B I F E D C J h i L bc ah = some O) ?_ ?_
   ·obtain ⟨S, l, H⟩ := bnd H
    rcases gY (!(S)) with f | f <;> revert f
    ·intro c
     have c := iv c
     have H := f0 (btf c) H
     obtain ⟨aj, ad, H⟩ := bnd H
     rcases gY (!(aj)) with f | f <;> revert f
     ·intro n
      have n := iv n
      have H := f0 (btf n) H
      refine fw _ Z (Ic Mb0 (Ic Mb1 (Ic Mb2 In0)))<|Jm 0 Z<|Jq 1 Z (fC Z)<|JF 2 4 Z<|Jl 3 (sv a) Z (Rb0 Z)<|Jm 4 Z<|?_
      have X := A.mono p
      obtain ⟨_, rfl, aK⟩ := Slr.at X l
      refine Jq 5 Z (Qi (T := Ty.bool) X l Z)<|Jl 6 (.bool S) Z (Rdc.k aK Z)<|Jq 7 Z (gf Z)<|Jm 8 Z<|Aw.known (d := 33) Z (lB (c))<|Jz 9 Z<|Jz 10 Z<|Jz 11 Z<|Jz 12 Z<|Jz 13 Z<|Jz 14 Z<|Jz 15 Z<|Jz 16 Z<|Jz 17 Z<|Jz 18 Z<|Jz 19 Z<|Jz 20 Z<|Jz 21 Z<|Jt 22 Z<|Jm 23 Z<|Bm 24 Z<|Bq 25 Z (fC Z)<|?_
      refine BF 26 4 Z<|Bl 27 (sv a) Z (Rb0 Z)<|Bm 28 Z<|?_
      obtain ⟨_, rfl, aL⟩ := Slr.at X ad
      refine Bq 29 Z (Qi (T := Ty.bool) X ad Z)<|Bl 30 (.bool aj) Z (Rdc.k aL Z)<|Bq 31 Z (gf Z)<|Bm 32 Z<|Aw.known (d := 57) Z (lB (n))<|Jz 33 Z<|Jz 34 Z<|Jz 35 Z<|Jz 36 Z<|Jz 37 Z<|Jz 38 Z<|Jz 39 Z<|Jz 40 Z<|Jz 41 Z<|Jz 42 Z<|Jz 43 Z<|Jz 44 Z<|Jz 45 Z<|Bt 46 Z<|Jt 47 Z<|Ad<|Pu2<|?_
      exact Pu2<|Pu2<|Sd<|⟨_, by exact R6, true, Z, Z, Z, H⟩
     ·intro n
      have n := ir n
      have H := ift n H
      obtain ⟨ak, aC, H⟩ := bnd H
      obtain ⟨al, aD, H⟩ := bnd H
      refine fw _ Z (Ic Mb0 (Ic Mb1 (Ic Mb2 In0)))<|Jm 0 Z<|Jq 1 Z (fC Z)<|JF 2 4 Z<|Jl 3 (sv a) Z (Rb0 Z)<|Jm 4 Z<|?_
      have Y := A.mono p
      obtain ⟨_, rfl, aM⟩ := Slr.at Y l
      refine Jq 5 Z (Qi (T := Ty.bool) Y l Z)<|Jl 6 (.bool S) Z (Rdc.k aM Z)<|Jq 7 Z (gf Z)<|Jm 8 Z<|Aw.known (d := 33) Z (lB (c))<|Jz 9 Z<|Jz 10 Z<|Jz 11 Z<|Jz 12 Z<|Jz 13 Z<|Jz 14 Z<|Jz 15 Z<|Jz 16 Z<|Jz 17 Z<|Jz 18 Z<|Jz 19 Z<|Jz 20 Z<|Jz 21 Z<|Jt 22 Z<|Jm 23 Z<|Bm 24 Z<|Bq 25 Z (fC Z)<|?_
      refine BF 26 4 Z<|Bl 27 (sv a) Z (Rb0 Z)<|Bm 28 Z<|?_
      obtain ⟨_, rfl, aN⟩ := Slr.at Y ad
      refine Bq 29 Z (Qi (T := Ty.bool) Y ad Z)<|Bl 30 (.bool aj) Z (Rdc.k aN Z)<|Bq 31 Z (gf Z)<|Bm 32 Z<|Aw.known (d := 57) Z (lA (n))<|Bm 33 Z<|Bq 34 Z (fC Z)<|BF 35 5 Z<|Bl 36 (sv b) Z (Rb0 Z)<|Bm 37 Z<|?_
      have ay := P.mono p
      obtain ⟨_, rfl, aO⟩ := Slr.at ay aC
      refine Bq 38 Z (Qi (T := fP) ay aC Z)<|BL 39 5 (ff ak) Z (Rdc.k aO Z)<|Bm 40 Z<|Bm 41 Z<|?_
      obtain ⟨_, rfl, aP⟩ := Slr.at g aD
      exact Bq 42 Z (Qi (T := gu) g aD Z)<|Bq 43 Z (gA (q := 1) (m := 5) Z Z Z Z Z (by decide) Z (by decide))<|BL 44 5 (ff al.x1) Z (Rdc.k aP Z)<|Bq 45 Z (jx Z Z (fun w => Result.eqrun ak al.x1 w) (by kernel_rfl))<|Bf 46 Z<|Jt 47 Z<|Ad<|Pu2<|Pu2<|Pu2<|Sd<|⟨_, by exact R6, (dcd (ak = al.x1)), Z, Z, Z, H⟩
    ·intro c
     have c := ir c
     have H := ift c H
     obtain ⟨M, Q, H⟩ := bnd H
     obtain ⟨N, R, H⟩ := bnd H
     rcases gY (dcd (M = N.x0)) with f | f <;> revert f
     ·intro r
      obtain ⟨r, H⟩ := It r H
      obtain ⟨am, ae, H⟩ := bnd H
      rcases gY (!(am)) with f | f <;> revert f
      ·intro o
       have o := iv o
       have H := f0 (btf o) H
       refine fw _ Z (Ic Mb0 (Ic Mb1 (Ic Mb2 In0)))<|Jm 0 Z<|Jq 1 Z (fC Z)<|JF 2 4 Z<|Jl 3 (sv a) Z (Rb0 Z)<|Jm 4 Z<|?_
       have aa := A.mono p
       obtain ⟨_, rfl, aQ⟩ := Slr.at aa l
       refine Jq 5 Z (Qi (T := Ty.bool) aa l Z)<|Jl 6 (.bool S) Z (Rdc.k aQ Z)<|Jq 7 Z (gf Z)<|Jm 8 Z<|Aw.known (d := 33) Z (lA (c))<|Bm 9 Z<|Bq 10 Z (fC Z)<|BF 11 5 Z<|Bl 12 (sv b) Z (Rb0 Z)<|Bm 13 Z<|?_
       have az := P.mono p
       obtain ⟨_, rfl, aR⟩ := Slr.at az Q
       refine Bq 14 Z (Qi (T := fP) az Q Z)<|BL 15 5 (ff M) Z (Rdc.k aR Z)<|Bm 16 Z<|Bm 17 Z<|?_
       obtain ⟨_, rfl, aS⟩ := Slr.at g R
       refine Bq 18 Z (Qi (T := gu) g R Z)<|Bq 19 Z (gA (q := 0) (m := 0) Z Z Z Z Z (by decide) Z (by decide))<|BL 20 5 (ff N.x0) Z (Rdc.k aS Z)<|Bq 21 Z (jx Z Z (fun w => Result.eqrun M N.x0 w) (by kernel_rfl))<|Jf 22 Z<|Jm 23 Z<|Aw.known (d := 48) Z (hX r)<|Bm 24 Z<|Bq 25 Z (fC Z)<|BF 26 4 Z<|Bl 27 (sv a) Z (Rb0 Z)<|Bm 28 Z<|?_
       obtain ⟨_, rfl, aT⟩ := Slr.at aa ae
       refine Bq 29 Z (Qi (T := Ty.bool) aa ae Z)<|Bl 30 (.bool am) Z (Rdc.k aT Z)<|Bq 31 Z (gf Z)<|Bm 32 Z<|Aw.known (d := 57) Z (lB (o))<|Jz 33 Z<|Jz 34 Z<|Jz 35 Z<|Jz 36 Z<|Jz 37 Z<|Jz 38 Z<|Jz 39 Z<|Jz 40 Z<|Jz 41 Z<|Jz 42 Z<|Jz 43 Z<|Jz 44 Z<|Jz 45 Z<|Bt 46 Z<|Jt 47 Z<|Ad<|Pu2<|?_
       exact Pu2<|Pu2<|Sd<|⟨_, by exact R6, true, Z, Z, Z, H⟩
      ·intro o
       have o := ir o
       have H := ift o H
       obtain ⟨an, aE, H⟩ := bnd H
       obtain ⟨ao, aF, H⟩ := bnd H
       refine fw _ Z (Ic Mb0 (Ic Mb1 (Ic Mb2 In0)))<|Jm 0 Z<|Jq 1 Z (fC Z)<|JF 2 4 Z<|Jl 3 (sv a) Z (Rb0 Z)<|Jm 4 Z<|?_
       have ab := A.mono p
       obtain ⟨_, rfl, aU⟩ := Slr.at ab l
       refine Jq 5 Z (Qi (T := Ty.bool) ab l Z)<|Jl 6 (.bool S) Z (Rdc.k aU Z)<|Jq 7 Z (gf Z)<|Jm 8 Z<|Aw.known (d := 33) Z (lA (c))<|Bm 9 Z<|Bq 10 Z (fC Z)<|BF 11 5 Z<|Bl 12 (sv b) Z (Rb0 Z)<|Bm 13 Z<|?_
       have ac := P.mono p
       obtain ⟨_, rfl, aV⟩ := Slr.at ac Q
       refine Bq 14 Z (Qi (T := fP) ac Q Z)<|BL 15 5 (ff M) Z (Rdc.k aV Z)<|Bm 16 Z<|Bm 17 Z<|?_
       obtain ⟨_, rfl, aW⟩ := Slr.at g R
       refine Bq 18 Z (Qi (T := gu) g R Z)<|Bq 19 Z (gA (q := 0) (m := 0) Z Z Z Z Z (by decide) Z (by decide))<|BL 20 5 (ff N.x0) Z (Rdc.k aW Z)<|Bq 21 Z (jx Z Z (fun w => Result.eqrun M N.x0 w) (by kernel_rfl))<|Jf 22 Z<|Jm 23 Z<|Aw.known (d := 48) Z (hX r)<|Bm 24 Z<|Bq 25 Z (fC Z)<|BF 26 4 Z<|Bl 27 (sv a) Z (Rb0 Z)<|Bm 28 Z<|?_
       obtain ⟨_, rfl, aX⟩ := Slr.at ab ae
       refine Bq 29 Z (Qi (T := Ty.bool) ab ae Z)<|Bl 30 (.bool am) Z (Rdc.k aX Z)<|Bq 31 Z (gf Z)<|Bm 32 Z<|Aw.known (d := 57) Z (lA (o))<|Bm 33 Z<|Bq 34 Z (fC Z)<|BF 35 5 Z<|Bl 36 (sv b) Z (Rb0 Z)<|Bm 37 Z<|?_
       obtain ⟨_, rfl, aY⟩ := Slr.at ac aE
       refine Bq 38 Z (Qi (T := fP) ac aE Z)<|BL 39 5 (ff an) Z (Rdc.k aY Z)<|Bm 40 Z<|Bm 41 Z<|?_
       obtain ⟨_, rfl, aZ⟩ := Slr.at g aF
       exact Bq 42 Z (Qi (T := gu) g aF Z)<|Bq 43 Z (gA (q := 1) (m := 5) Z Z Z Z Z (by decide) Z (by decide))<|BL 44 5 (ff ao.x1) Z (Rdc.k aZ Z)<|Bq 45 Z (jx Z Z (fun w => Result.eqrun an ao.x1 w) (by kernel_rfl))<|Bf 46 Z<|Jt 47 Z<|Ad<|Pu2<|Pu2<|Pu2<|Sd<|⟨_, by exact R6, (dcd (an = ao.x1)), Z, Z, Z, H⟩
     ·intro r
      obtain ⟨r, H⟩ := If r H
      refine fw _ Z (Ic Mb0 (Ic Mb1 (Ic Mb2 In0)))<|Jm 0 Z<|Jq 1 Z (fC Z)<|JF 2 4 Z<|Jl 3 (sv a) Z (Rb0 Z)<|Jm 4 Z<|?_
      have aA := A.mono p
      obtain ⟨_, rfl, a0⟩ := Slr.at aA l
      refine Jq 5 Z (Qi (T := Ty.bool) aA l Z)<|Jl 6 (.bool S) Z (Rdc.k a0 Z)<|Jq 7 Z (gf Z)<|Jm 8 Z<|Aw.known (d := 33) Z (lA (c))<|Bm 9 Z<|Bq 10 Z (fC Z)<|BF 11 5 Z<|Bl 12 (sv b) Z (Rb0 Z)<|Bm 13 Z<|?_
      have aB := P.mono p
      obtain ⟨_, rfl, a1⟩ := Slr.at aB Q
      refine Bq 14 Z (Qi (T := fP) aB Q Z)<|BL 15 5 (ff M) Z (Rdc.k a1 Z)<|Bm 16 Z<|Bm 17 Z<|?_
      obtain ⟨_, rfl, a2⟩ := Slr.at g R
      refine Bq 18 Z (Qi (T := gu) g R Z)<|Bq 19 Z (gA (q := 0) (m := 0) Z Z Z Z Z (by decide) Z (by decide))<|BL 20 5 (ff N.x0) Z (Rdc.k a2 Z)<|Bq 21 Z (jx Z Z (fun w => Result.eqrun M N.x0 w) (by kernel_rfl))<|Jf 22 Z<|Jm 23 Z<|Aw.known (d := 48) Z (iE r)<|Jz 24 Z<|Jz 25 Z<|Jz 26 Z<|Jz 27 Z<|Jz 28 Z<|Jz 29 Z<|Jz 30 Z<|Jz 31 Z<|Jz 32 Z<|gK 33 Z (by kernel_rfl) (by kernel_rfl) (by kernel_rfl) Z Z Z Z rfl<|gK 34 Z (by kernel_rfl) (by kernel_rfl) (by kernel_rfl) Z Z Z Z rfl<|gK 35 Z (by kernel_rfl) (by kernel_rfl) (by kernel_rfl) Z Z Z Z rfl<|gK 36 Z (by kernel_rfl) (by kernel_rfl) (by kernel_rfl) Z Z Z Z rfl<|gK 37 Z (by kernel_rfl) (by kernel_rfl) (by kernel_rfl) Z Z Z Z rfl<|gK 38 Z (by kernel_rfl) (by kernel_rfl) (by kernel_rfl) Z Z Z Z rfl<|?_
      exact gK 39 Z (by kernel_rfl) (by kernel_rfl) (by kernel_rfl) Z Z Z Z rfl<|gK 40 Z (by kernel_rfl) (by kernel_rfl) (by kernel_rfl) Z Z Z Z rfl<|gK 41 Z (by kernel_rfl) (by kernel_rfl) (by kernel_rfl) Z Z Z Z rfl<|gK 42 Z (by kernel_rfl) (by kernel_rfl) (by kernel_rfl) Z Z Z Z rfl<|gK 43 Z (by kernel_rfl) (by kernel_rfl) (by kernel_rfl) Z Z Z Z rfl<|gK 44 Z (by kernel_rfl) (by kernel_rfl) (by kernel_rfl) Z Z Z Z rfl<|gK 45 Z (by kernel_rfl) (by kernel_rfl) (by kernel_rfl) Z Z Z Z rfl<|Jz 46 Z<|Jf 47 Z<|Ad<|Pu2<|Pu2<|Pu2<|Sd<|⟨_, by exact R6, false, Z, Z, Z, H⟩
   rintro _ _ _ - ⟨ah, rfl, rfl, rfl, H⟩
   unfold ql at H
   refine fm Z ?_ ?_
   ·intro ag
    have H := ift ag H
    refine fc<|fa<|Ea Z<|fb<|fx<|?_
    obtain aJ := gq H
    subst O
    refine ⟨(.inl Z), [(.bool true)], ⟨(.bool true), _, Z, Z, Z⟩, ?_⟩
    exact Pu2<|Pu1<|Re2<|Sd<|⟨Z, Z⟩
   ·intro ag
    have H := f0 (btf ag) H
    exact ft<|fa<|Em Z<|Er (wI (B + 1)) Z<|Ea Z<|fb<|Pu2<|Pu2<|Pu2<|Sd<|⟨_, by exact R5, _, Nat.lt_succ_self _, (wI (B + 1)), Z, Z, Z, (a3 ▸ H)⟩
  ·intro W
   obtain ⟨W, H⟩ := If W H
   exact f5<|Pu2<|Pu1<|Re2<|Sd<|⟨[], trivial, Z, Z, H⟩
 rintro _ bh _ bi ⟨rfl, rfl, H⟩
 unfold xh at H
 refine fc<|fa<|Ea Z<|fb<|fx<|?_
 obtain aJ := gq H
 subst O
 refine ⟨(.inl Z), [(.bool false)], ⟨(.bool false), _, Z, Z, Z⟩, ?_⟩
 exact Pu1<|Pu1<|Sd<|⟨Z, Z⟩
theorem xH (fu : Nat) : ∀ (c : Nat) (i : ae8) (p : SV) (h : ad8) (o : SV) (g : ae5) (n : SV) (f : af8) (m : SV) (e : ae6) (l : SV) (j : ad7) (q : SV) (a b : Bool) (ad : ae3) (ah : SV) (af : List (List Value)) (p1 : ae6) (x : SV) (p2 : ad1) (y : SV) (r : Bool) (s : ae3) (H : pV fu i h g f e j a b ad p1 p2 = some (r, s)) (K : Kp) (G : List Ent) (aC : Slr (Ty.sl gR) K (sv p) i) (aB : Slr f4 K (sv o) h) (aA : Slr gy K (sv n) g) (az : Slr (Ty.sl Ty.bool) K (sv m) f) (ay : Slr Ty.bool K (sv l) e) (aD : Slr fP K (sv q) j) (am : RowR Ty.str K af ad) (aE : Slr Ty.bool K (sv x) p1) (aF : Slr fH K (sv y) p2),
  Fc Tryz.prog 26 #[(Vp c), (sv x), (sv y)] K ((.blk c 76 [(sv p), (sv o), (sv n), (sv m), (sv l), (sv q), (.bool a), (.bool b), (sv ah)]) :: (.row (sv ah) 9 1 af.flatten) :: G) (fun v u t => ∃ (bW : SV) (bU : List (List Value)), v = (.bool r) ∧ (.blk c 76 [(sv p), (sv o), (sv n), (sv m), (sv l), (sv q), (.bool a), (.bool b), (sv bW)]) :: (.row (sv bW) 9 1 bU.flatten) :: G = t ∧ RowR Ty.str u bU s) := by
 induction fu with
 | zero => intro c i p h o g n f m e l j q a b ad ah af p1 x p2 y r s H K G aC aB aA az ay aD am aE aF; cases H
 | succ fu ih =>
 intro c i p h o g n f m e l j q a b ad ah af p1 x p2 y r s H K G aC aB aA az ay aD am aE aF
 have H : sB (pV fu) i h g f e j a b ad p1 p2 = some (r, s) := H
 generalize pV fu = rc at H ih
 refine fN Tryz.func26 Z Tryz.ntmps26 Tryz.results26 Z ?_
 unfold sB at H
 refine fc<|fa<|Ea Z<|fb<|fc<|fc<|fa<|Em Z<|Em Z<|Em Z<|?_
 obtain ⟨dm, c3, H⟩ := bnd H
 refine Ow.shift (Pu1 (Sd ?_))
 refine Ow.shift (Pu1 (Sd ?_))
 refine fe Z (Ek Tryz.call46 Z (FI c i p h o g n f m e l j q a b ad ah af p1 x p2 y dm c3 _ _ aC aB aA az ay aD am aE aF) ?_)
 rintro _ dH _ D ⟨rfl, rfl⟩
 refine fb ?_
 refine fm Z ?_ ?_
 ·intro aX
  have H := ift aX H
  refine fc<|fa<|Ea Z<|fb<|fx<|?_
  obtain ⟨ar, au⟩ := ic H
  subst r s
  refine ⟨(.inl Z), [(.bool true)], ⟨(.bool true), _, Z, Z, Z⟩, ?_⟩
  refine Pu1<|Pu1<|?_
  have cQ := am.mono D
  exact Sd ⟨ah, af, Z, Z, cQ⟩
 ·intro aX
  have H := f0 (btf aX) H
  refine ft<|fc<|fc<|fa<|Em Z<|Em Z<|Em Z<|?_
  obtain ⟨b7, c4, H⟩ := bnd H
  have bG := aE.mono D
  have bH := aF.mono D
  refine fe Z (Ek Tryz.call48 Z (D6 p1 x p2 y b7 c4 _ _ bG bH) ?_)
  rintro _ dI _ J ⟨rfl, rfl⟩
  obtain ⟨dn, b8, c5, H⟩ := iw H
  refine Ow.shift (Pu1 (Sd ?_))
  refine Ow.shift (Pu1 (Sd ?_))
  have bI := (aC.mono D).mono J
  have bJ := (aB.mono D).mono J
  have bK := (aA.mono D).mono J
  have bL := (az.mono D).mono J
  have bM := (ay.mono D).mono J
  have bN := (aD.mono D).mono J
  have cR := (am.mono D).mono J
  refine fe Z (Ek Tryz.call47 Z (D7 c i p h o g n f m e l j q a b ad ah af b7 dn b8 c5 _ _ bI bJ bK bL bM bN cR) ?_)
  rintro _ dJ _ V ⟨bV, bT, rfl, rfl, bO⟩
  refine fb ?_
  refine fm Z ?_ ?_
  ·intro aY
   have H := ift aY H
   refine fc<|fa<|Ea Z<|fb<|fx<|?_
   obtain ⟨ar, au⟩ := ic H
   subst r s
   refine ⟨(.inl Z), [(.bool false)], ⟨(.bool false), _, Z, Z, Z⟩, ?_⟩
   exact Pu1<|Pu1<|Sd<|⟨bV, bT, Z, Z, bO⟩
  ·intro aY
   have H := f0 (btf aY) H
   refine ft ?_
   refine fz (fun z u t => ∃ (aO : SV) (a9 : ae3) (aL : List (List Value)), [] = z ∧ (.blk c 76 [(sv p), (sv o), (sv n), (sv m), (sv l), (sv q), (.bool a), (.bool b), (sv aO)]) :: (.row (sv aO) 9 1 aL.flatten) :: G = t ∧ xj i h g f e j a b rc a9 = some (r, s) ∧ RowR Ty.str u aL a9) ?_ ?_
   ·refine fc<|fa<|Ea Z<|fb<|fA<|?_
    refine fY (fun bQ z u t => ∃ (d : Int) (Y : SV) (W : ae3) (X : List (List Value)), [(0, (Vp c)), (1, (sv x)), (2, (sv y)), (7, (Vi d))] = z ∧ (.blk c 76 [(sv p), (sv o), (sv n), (sv m), (sv l), (sv q), (.bool a), (.bool b), (sv Y)]) :: (.row (sv Y) 9 1 X.flatten) :: G = t ∧ lp2 (xq p1 p2 i h g f e j a b rc) bQ d W = some (r, s) ∧ RowR Ty.str u X W) BIG ?_ ?_
    ·exact Pu1<|Pu1<|Sd<|⟨_, by exact R4, 0, bV, b8, bT, Z, Z, H, bO⟩
    rintro bQ _ dp _ O ⟨d, Y, W, X, rfl, rfl, H, av⟩
    obtain ⟨dQ, ai, rfl, cd, H⟩ := jC H
    unfold xq at H
    refine fc<|fc<|fa<|Em Z<|Em Z<|?_
    have aG := ((bG.mono J).mono V).mono O
    refine Eq Z (ge (T := Ty.bool) aG Z Z)<|Ec Z<|fb<|?_
    refine fm Z ?_ ?_
    ·intro aj
     obtain ⟨aj, H⟩ := It aj H
     refine ft ?_
     refine fz (fun z u t => ∃ (aP : SV) (aH : ae3) (aM : List (List Value)), [(0, (Vp c)), (1, (sv x)), (2, (sv y)), (7, (Vi d))] = z ∧ (.blk c 76 [(sv p), (sv o), (sv n), (sv m), (sv l), (sv q), (.bool a), (.bool b), (sv aP)]) :: (.row (sv aP) 9 1 aM.flatten) :: G = t ∧ pe p1 p2 d i h g f e j a b ai rc aH = some (r, s) ∧ RowR Ty.str u aM aH) ?_ ?_
     ·refine fA<|fc<|fc<|fa<|Em Z<|Em Z<|Em Z<|?_
      obtain ⟨di, cS, H⟩ := bnd H
      refine Ow.shift (Pu1 (Sd ?_))
      refine Ow.shift (Pu1 (Sd ?_))
      have bf := (bI.mono V).mono O
      have bg := (bJ.mono V).mono O
      have bh := (bK.mono V).mono O
      have bi := (bL.mono V).mono O
      have bj := (bM.mono V).mono O
      have bk := (bN.mono V).mono O
      refine fe Z (Ek Tryz.call49 Z (yU c i p h o g n f m e l j q a b W Y X p1 x d di cS _ _ bf bg bh bi bj bk av aG) ?_)
      rintro _ dq _ A ⟨rfl, rfl⟩
      refine Eq Z (gf Z)<|fb<|?_
      refine fm Z ?_ ?_
      ·intro aa
       have aa := iv aa
       have H := f0 (btf aa) H
       refine f5<|Pu1<|Pu1<|?_
       have cg := av.mono A
       exact Sd ⟨_, by exact R4, Y, W, X, Z, Z, H, cg⟩
      ·intro aa
       have aa := ir aa
       have H := ift aa H
       refine ft<|fc<|fa<|Em Z<|Em Z<|Em Z<|?_
       obtain ⟨bc, cT, H⟩ := bnd H
       refine Ow.shift (Pu1 (Sd ?_))
       refine Ow.shift (Pu1 (Sd ?_))
       have aZ := bf.mono A
       have a0 := bg.mono A
       have a1 := bh.mono A
       have a2 := bi.mono A
       have a3 := bj.mono A
       have a4 := bk.mono A
       have bl := av.mono A
       have a5 := (((bH.mono J).mono V).mono O).mono A
       refine fe Z (Ek Tryz.call50 Z (D8 c i p h o g n f m e l j q a b W Y X p2 y d bc cT _ _ aZ a0 a1 a2 a3 a4 bl a5) ?_)
       rintro _ dr _ w ⟨aQ, rfl, rfl, ch⟩
       refine Ea Z<|fb<|?_
       refine fz (fun z u t => ∃ (aR : SV) (aI : ae3) (aN : List (List Value)), [(0, (Vp c)), (1, (sv x)), (2, (sv y)), (7, (Vi d))] = z ∧ (.blk c 76 [(sv p), (sv o), (sv n), (sv m), (sv l), (sv q), (.bool a), (.bool b), (sv aR)]) :: (.row (sv aR) 9 1 aN.flatten) :: G = t ∧ xm p1 p2 d i h g f e j a b ai rc aI = some (r, s) ∧ RowR Ty.str u aN aI) ?_ ?_
       ·refine fc<|fa<|Ea Z<|fb<|fA<|?_
        refine fY (fun bR z u t => ∃ (ab : Int) (ag : SV) (ac : ae3) (ae : List (List Value)), [(0, (Vp c)), (1, (sv x)), (2, (sv y)), (7, (Vi d)), (8, (sv aQ)), (9, (Vi ab))] = z ∧ (.blk c 76 [(sv p), (sv o), (sv n), (sv m), (sv l), (sv q), (.bool a), (.bool b), (sv ag)]) :: (.row (sv ag) 9 1 ae.flatten) :: (.tok 38 5 [(sv aQ)]) :: G = t ∧ lp2 (xp p1 p2 d bc i h g f e j a b ai rc) bR ab ac = some (r, s) ∧ RowR Ty.str u ae ac) BIG ?_ ?_
        ·refine Pu1<|Pu2<|Pu2<|?_
         have ci := bl.mono w
         exact Sd ⟨_, by exact R6, 0, Y, W, X, Z, Z, H, ci⟩
        rintro bR _ ds _ F ⟨ab, ag, ac, ae, rfl, rfl, H, aw⟩
        obtain ⟨dR, c6, rfl, ce, H⟩ := jC H
        unfold xp at H
        refine fc<|fc<|fa<|Em Z<|Em Z<|?_
        have a6 := ch.mono F
        refine Eq Z (ge (T := fP) a6 Z Z)<|Ec Z<|fb<|?_
        refine fm Z ?_ ?_
        ·intro ak
         obtain ⟨ak, H⟩ := It ak H
         refine ft<|fc<|fA<|fc<|?_
         obtain ⟨bX, cU, H⟩ := bnd H
         obtain ⟨bY, bP, H⟩ := bnd H
         obtain ⟨bZ, dj, cV, H⟩ := iw H
         refine fw _ Z (Ic Mb0 (Ic Mb1 (Ic Mb2 In0)))<|Jm 0 Z<|Jm 1 Z<|Jm 2 Z<|Jm 4 Z<|Jm 5 Z<|?_
         obtain ⟨_, rfl, cc⟩ := Slr.at a6 bP
         refine Jq 6 Z (Qi (T := fP) a6 bP Z)<|JL 7 5 (ff bY) Z (Rdc.k cc Z)<|?_
         refine Ao 3 Z ?_
         refine OpW.shift (Pu1 (Sd ?_))
         refine OpW.shift (Pu1 (Sd ?_))
         have bm := (aZ.mono w).mono F
         have bn := (a0.mono w).mono F
         have bo := (a1.mono w).mono F
         have bp := (a2.mono w).mono F
         have bq := (a3.mono w).mono F
         have br := (a4.mono w).mono F
         refine Ek Tryz.call52 Z (np c i p h o g n f m e l j q a b ac ag ae d bX cU _ _ bm bn bo bp bq br aw) ?_
         rintro _ _ _ - ⟨da, db, rfl, rfl, rfl, cj, ck⟩
         refine ⟨(Ic Mb0 (Ic Mb1 (Ic Mb2 In0))), ?_⟩
         refine Ao 8 Z ?_
         have cl := (a5.mono w).mono F
         refine Ek Tryz.call51 Z (yQ p2 y bX da db bY bZ dj cV _ _ cl cj ck) ?_
         rintro _ dt _ I ⟨dc, rfl, rfl, cm⟩
         refine ⟨(Ic Mb0 (Ic Mb1 (Ic Mb2 In0))), ?_⟩
         refine Jm 9 Z<|Jx 10 Z<|Jx 11 Z<|Ja 12 Z<|Ja 13 Z<|Ad<|?_
         refine fz (fun z u t => ∃ (ba : Bool) (ap : SV) (aJ : ae3) (an : List (List Value)), [(0, (Vp c)), (1, (sv x)), (2, (sv y)), (7, (Vi d)), (8, (sv aQ)), (9, (Vi ab)), (63, (.bool ba))] = z ∧ (.blk c 76 [(sv p), (sv o), (sv n), (sv m), (sv l), (sv q), (.bool a), (.bool b), (sv ap)]) :: (.row (sv ap) 9 1 an.flatten) :: (.tok 38 5 [(sv aQ)]) :: G = t ∧ tq p1 p2 d bc ab i h g f e j a b ai c6 rc ba aJ = some (r, s) ∧ RowR Ty.str u an aJ) ?_ ?_
         ·refine fa<|Em Z<|Em Z<|?_
          refine Ee Z ?_ ?_
          ·intro aS
           have H := ift aS H
           refine Vm Z<|Vm Z<|Vm Z<|?_
           obtain ⟨b0, cW, H⟩ := bnd H
           have cn := (((aG.mono A).mono w).mono F).mono I
           refine hQ Z Z Z Z (Ek Tryz.call53 Z (xN p1 x d b0 cW _ _ cn) ?_)
           rintro _ _ _ - ⟨dd, dT, rfl, rfl, rfl, co⟩
           refine Vm Z ?_
           refine Ow.shift (Shift.settle (T := Ty.bool) .here co Z (fun du P cp => Sd ?_))
           obtain ⟨b1, b2, cX, H⟩ := iw H
           refine Ow.shift (Pu2 (Sd ?_))
           refine Ow.shift (Pu2 (Sd ?_))
           have cq := (bm.mono I).mono P
           have cr := (bn.mono I).mono P
           have cs := (bo.mono I).mono P
           have ct := (bp.mono I).mono P
           have cu := (bq.mono I).mono P
           have cv := (br.mono I).mono P
           have cw := (aw.mono I).mono P
           have cx := cm.mono P
           refine hQ Z Z Z Z (Ek Tryz.call26 Z (ih c i p h o g n f m e l j q a b ac ag ae b0 dd bZ dc b1 b2 cX _ _ cq cr cs ct cu cv cw cp cx) ?_)
           rintro _ dv _ dK ⟨de, c8, rfl, rfl, cy⟩
           exact Et Z<|fb<|Pu3<|Pu2<|Pu2<|Re3<|Sd<|⟨_, by exact R7, b1, de, b2, c8, Z, Z, H, cy⟩
          ·intro aS
           have H := f0 (btf aS) H
           refine Ez Z<|Ez Z<|Ez Z<|Ez Z<|Ez Z<|Ez Z<|Ef Z<|fb<|Pu2<|Pu2<|Pu2<|?_
           have cz := aw.mono I
           exact Sd ⟨_, by exact R7, false, ag, ac, ae, Z, Z, H, cz⟩
         rintro _ dw _ dL ⟨ba, ap, aJ, an, rfl, rfl, H, bd⟩
         unfold tq at H
         refine fm Z ?_ ?_
         ·intro aT
          have H := ift aT H
          refine fc<|fa<|Ea Z<|fb<|fx<|?_
          obtain ⟨ar, au⟩ := ic H
          subst r s
          refine ⟨(.inl Z), [(.bool true)], ⟨(.bool true), _, Z, Z, Z⟩, ?_⟩
          exact Pu1<|Pu1<|Re2<|Sd<|⟨ap, an, Z, Z, bd⟩
         ·intro aT
          have H := f0 (btf aT) H
          exact ft<|fa<|Em Z<|Er (wI (ab + 1)) Z<|Ea Z<|fb<|Pu2<|Pu2<|Pu2<|Sd<|⟨_, by exact R6, _, Nat.lt_succ_self _, (wI (ab + 1)), ap, aJ, an, Z, Z, (ce ▸ H), bd⟩
        ·intro ak
         obtain ⟨ak, H⟩ := If ak H
         exact f5<|Pu1<|Pu1<|Re2<|Sd<|⟨_, by exact R4, ag, ac, ae, Z, Z, H, aw⟩
       rintro _ dx _ Q ⟨aR, aI, aN, rfl, rfl, H, cb⟩
       unfold xm at H
       refine fc<|fa<|Em Z<|Er (wI (d + 1)) Z<|Ea Z<|fb<|fA<|?_
       refine fY (fun bS z u t => ∃ (E : Int) (N : SV) (L : ae3) (M : List (List Value)), [(0, (Vp c)), (1, (sv x)), (2, (sv y)), (7, (Vi d)), (12, (Vi E))] = z ∧ (.blk c 76 [(sv p), (sv o), (sv n), (sv m), (sv l), (sv q), (.bool a), (.bool b), (sv N)]) :: (.row (sv N) 9 1 M.flatten) :: G = t ∧ lp2 (xl p1 p2 d i h g f e j a b ai rc) bS E L = some (r, s) ∧ RowR Ty.str u M L) BIG ?_ ?_
       ·exact Pu1<|Pu1<|Sd<|⟨_, by exact R5, (wI (d + 1)), aR, aI, aN, Z, Z, H, cb⟩
       rintro bS _ dy _ R ⟨E, N, L, M, rfl, rfl, H, ax⟩
       obtain ⟨dS, c7, rfl, cf, H⟩ := jC H
       unfold xl at H
       refine fc<|fc<|fa<|Em Z<|Em Z<|?_
       have a7 := (((aG.mono A).mono w).mono Q).mono R
       refine Eq Z (ge (T := Ty.bool) a7 Z Z)<|Ec Z<|fb<|?_
       refine fm Z ?_ ?_
       ·intro al
        obtain ⟨al, H⟩ := It al H
        refine ft<|fc<|fA<|?_
        refine fz (fun z u t => ∃ (bb : Bool) (aq : SV) (aK : ae3) (ao : List (List Value)), [(0, (Vp c)), (1, (sv x)), (2, (sv y)), (7, (Vi d)), (12, (Vi E)), (92, (.bool bb))] = z ∧ (.blk c 76 [(sv p), (sv o), (sv n), (sv m), (sv l), (sv q), (.bool a), (.bool b), (sv aq)]) :: (.row (sv aq) 9 1 ao.flatten) :: G = t ∧ pU p1 p2 d E i h g f e j a b ai c7 rc bb aK = some (r, s) ∧ RowR Ty.str u ao aK) ?_ ?_
        ·refine fa<|Em Z<|Em Z<|Em Z<|?_
         obtain ⟨dk, cY, H⟩ := bnd H
         refine Ow.shift (Pu1 (Sd ?_))
         refine Ow.shift (Pu1 (Sd ?_))
         have bs := ((aZ.mono w).mono Q).mono R
         have bt := ((a0.mono w).mono Q).mono R
         have bu := ((a1.mono w).mono Q).mono R
         have bv := ((a2.mono w).mono Q).mono R
         have bw := ((a3.mono w).mono Q).mono R
         have bx := ((a4.mono w).mono Q).mono R
         refine fe Z (Ek Tryz.call49 Z (yU c i p h o g n f m e l j q a b L N M p1 x E dk cY _ _ bs bt bu bv bw bx ax a7) ?_)
         rintro _ dz _ B ⟨rfl, rfl⟩
         refine Em Z ?_
         refine Ee Z ?_ ?_
         ·intro aU
          have H := ift aU H
          refine Vm Z<|Vm Z<|Vm Z<|Vm Z<|?_
          obtain ⟨dl, cZ, H⟩ := bnd H
          refine Ow.shift (Pu1 (Sd ?_))
          refine Ow.shift (Pu1 (Sd ?_))
          have bz := bs.mono B
          have bA := bt.mono B
          have bB := bu.mono B
          have bC := bv.mono B
          have bD := bw.mono B
          have bE := bx.mono B
          have a8 := ax.mono B
          have bF := (((a5.mono w).mono Q).mono R).mono B
          refine hQ Z Z Z Z (Ek Tryz.call54 Z (D9 c i p h o g n f m e l j q a b L N M p2 y d E dl cZ _ _ bz bA bB bC bD bE a8 bF) ?_)
          rintro _ dA _ C ⟨rfl, rfl⟩
          refine Et Z<|Em Z<|?_
          refine Ee Z ?_ ?_
          ·intro aV
           have H := ift aV H
           refine Vm Z<|Vm Z<|Vm Z<|?_
           obtain ⟨b3, c0, H⟩ := bnd H
           have cA := (a7.mono B).mono C
           refine hQ Z Z Z Z (Ek Tryz.call53 Z (xN p1 x d b3 c0 _ _ cA) ?_)
           rintro _ _ _ - ⟨df, dU, rfl, rfl, rfl, cB⟩
           refine Vm Z ?_
           refine Ow.shift (Shift.settle (T := Ty.bool) .here cB Z (fun dB S cC => Sd ?_))
           obtain ⟨b4, c1, H⟩ := bnd H
           refine hQ Z Z Z Z (Ek Tryz.call53 Z (xN b3 df E b4 c1 _ _ cC) ?_)
           rintro _ _ _ - ⟨dg, dV, rfl, rfl, rfl, cD⟩
           refine Vm Z ?_
           refine Ow.shift (Shift.settle (T := Ty.bool) .here cD Z (fun dC U cE => Sd ?_))
           obtain ⟨b5, b6, c2, H⟩ := iw H
           refine Ow.shift (Pu3 (Sd ?_))
           refine Ow.shift (Pu3 (Sd ?_))
           have cF := ((bz.mono C).mono S).mono U
           have cG := ((bA.mono C).mono S).mono U
           have cH := ((bB.mono C).mono S).mono U
           have cI := ((bC.mono C).mono S).mono U
           have cJ := ((bD.mono C).mono S).mono U
           have cK := ((bE.mono C).mono S).mono U
           have cL := ((a8.mono C).mono S).mono U
           have cM := ((bF.mono C).mono S).mono U
           refine hQ Z Z Z Z (Ek Tryz.call26 Z (ih c i p h o g n f m e l j q a b L N M b4 dg p2 y b5 b6 c2 _ _ cF cG cH cI cJ cK cL cE cM) ?_)
           rintro _ dD _ dM ⟨dh, c9, rfl, rfl, cN⟩
           exact Et Z<|fb<|Pu1<|Pu1<|Re2<|Re2<|Sd<|⟨_, by exact R6, b5, dh, b6, c9, Z, Z, H, cN⟩
          ·intro aV
           have H := f0 (btf aV) H
           refine Ez Z<|Ez Z<|Ez Z<|Ez Z<|Ez Z<|Ez Z<|Ez Z<|Ez Z<|Ef Z<|fb<|Pu1<|Pu1<|?_
           have cO := a8.mono C
           exact Sd ⟨_, by exact R6, false, N, L, M, Z, Z, H, cO⟩
         ·intro aU
          have H := f0 (btf aU) H
          refine Ez Z<|Ez Z<|Ez Z<|Ez Z<|Ez Z<|Ef Z<|Em Z<|Ez Z<|Ez Z<|Ez Z<|Ez Z<|Ez Z<|Ez Z<|Ez Z<|Ez Z<|Ef Z<|fb<|Pu1<|Pu1<|?_
          have cP := ax.mono B
          exact Sd ⟨_, by exact R6, false, N, L, M, Z, Z, H, cP⟩
        rintro _ dE _ dN ⟨bb, aq, aK, ao, rfl, rfl, H, be⟩
        unfold pU at H
        refine fm Z ?_ ?_
        ·intro aW
         have H := ift aW H
         refine fc<|fa<|Ea Z<|fb<|fx<|?_
         obtain ⟨ar, au⟩ := ic H
         subst r s
         refine ⟨(.inl Z), [(.bool true)], ⟨(.bool true), _, Z, Z, Z⟩, ?_⟩
         exact Pu1<|Pu1<|Sd<|⟨aq, ao, Z, Z, be⟩
        ·intro aW
         have H := f0 (btf aW) H
         exact ft<|fa<|Em Z<|Er (wI (E + 1)) Z<|Ea Z<|fb<|Pu1<|Pu1<|Sd<|⟨_, by exact R5, _, Nat.lt_succ_self _, (wI (E + 1)), aq, aK, ao, Z, Z, (cf ▸ H), be⟩
       ·intro al
        obtain ⟨al, H⟩ := If al H
        exact f5<|Pu1<|Pu1<|Sd<|⟨_, by exact R4, N, L, M, Z, Z, H, ax⟩
     rintro _ dF _ dO ⟨aP, aH, aM, rfl, rfl, H, ca⟩
     unfold pe at H
     exact fa<|Em Z<|Er (wI (d + 1)) Z<|Ea Z<|fb<|Pu1<|Pu1<|Sd<|⟨_, by exact R4, _, Nat.lt_succ_self _, (wI (d + 1)), aP, aH, aM, Z, Z, (cd ▸ H), ca⟩
    ·intro aj
     obtain ⟨aj, H⟩ := If aj H
     exact f5<|Pu1<|Pu1<|Sd<|⟨[], trivial, Y, W, X, Z, Z, H, av⟩
   rintro _ dG _ dP ⟨aO, a9, aL, rfl, rfl, H, b9⟩
   unfold xj at H
   refine fc<|fa<|Ea Z<|fb<|fx<|?_
   obtain ⟨ar, au⟩ := ic H
   subst r s
   refine ⟨(.inl Z), [(.bool false)], ⟨(.bool false), _, Z, Z, Z⟩, ?_⟩
   exact Pu1<|Pu1<|Sd<|⟨aO, aL, Z, Z, b9⟩
theorem Eb (p0 : fQ) (h i : SV) (p1 : ae8) (X : SV) (p2 : ad8) (Y : SV) (B : Bool) (H : sC p0 p1 p2 = some B) (K : Kp) (G : List Ent) (E : Slr Ty.i64 K (sv h) p0.capacities) (F : Slr Ty.u64 K (sv i) p0.starts) (an : Slr (Ty.sl gR) K (sv X) p1) (ao : Slr f4 K (sv Y) p2) :
  Fc Tryz.prog 17 #[(.agg (fq p0 h i).toArray), (sv X), (sv Y)] K (G) (fun v K' C => v = (.bool B) ∧ G = C) := by
 refine fN Tryz.func17 Z Tryz.ntmps17 Tryz.results17 Z ?_
 unfold sC at H
 refine fc<|fa<|?_
 refine fe Z (fU (cs := (fq p0 h i)) Z Z Z (fun bn => ?_))
 refine Ea Z<|fb<|fc<|fa<|Em Z<|Em Z<|?_
 obtain ⟨s, t, u, w, x, y, z, A, a5, H⟩ := bnd8 H
 refine fe Z (Ek Tryz.call25 Z (D2 p1 X p2 Y true true s t u w x y z A a5 _ _ an ao) ?_)
 rintro _ bc _ j ⟨D, R, S, q, U, V, W, rfl, rfl, I, J, o, L, M, N⟩
 refine Ea Z<|fb<|?_
 refine fz (fun ag K' C => ∃ (p : Bool), [(6, (.bool p))] = ag ∧ G = C ∧ xr p = some B) ?_ ?_
 ·obtain ⟨aa, O, H⟩ := bnd H
  obtain ⟨m, P, H⟩ := bnd H
  obtain ⟨n, ab, Q, H⟩ := iw H
  refine fw _ Z (Ic Mb1 (Ic Mb2 (Ic Mb3 (Ic Mb4 (Ic Mb5 In0)))))<|Jm 0 Z<|Jm 1 Z<|Jq 2 Z (fC Z)<|JF 3 2 Z<|JL 7 3 (fq p0 h i) Z (Rb4 Z)<|?_
  refine gW 4 8 (by kernel_rfl) ?_ ?_
  ·refine id (Jyq Z (gr (v := (sv q)) Z Z Z (Rb0 Z)) ⟨(Ic Mb1 (Ic Mb2 (Ic Mb3 (Ic Mb4 (Ic Mb5 In0))))), ?_⟩)
   refine Jq 5 Z (ge (T := gy) o Z Z) ?_
   refine gW 6 8 (by kernel_rfl) ?_ ?_
   ·refine id (Jy Z ?_)
    refine jw (T := Ty.bool) (r := [(.bool false)]) Z Z Z O Z Z Z Z Z Z Z Z Z Z (fun a6 bA ah bw => ⟨(Ic Mb2 (Ic Mb3 (Ic Mb4 (Ic Mb5 (Ic Mb6 In0))))), ?_⟩)
    refine Ao 8 Z ?_
    have ap := E.mono j
    have aq := F.mono j
    refine Ek Tryz.call27 Z (qw p0 h i m P _ _ ap aq) ?_
    rintro _ bd _ a ⟨a7, bB, rfl, rfl, ar⟩
    refine ⟨(Ic Mb4 (Ic Mb5 (Ic Mb6 (Ic Mb7 (Ic Mb8 In0))))), ?_⟩
    refine Ao 9 Z ?_
    have av := ah.mono a
    refine OpW.shift (Shift.settle (T := Ty.bool) (.there (.there .here)) av Z (fun be b au => Sd ?_))
    have ax := ar.mono b
    refine OpW.shift (Shift.settle (T := fH) .here ax Z (fun ad c aw => Sd ?_))
    have ai : RowR Ty.str ad [] [] := RowR.nil
    refine OpW.shift (Shift.nilRow 9 1 (Sd ?_))
    refine OpW.shift (Pu4 (Sd ?_))
    have ay := ((I.mono a).mono b).mono c
    have az := ((J.mono a).mono b).mono c
    have aA := ((o.mono a).mono b).mono c
    have aB := ((L.mono a).mono b).mono c
    have aC := ((M.mono a).mono b).mono c
    have aD := ((N.mono a).mono b).mono c
    have aE := au.mono c
    refine Ek Tryz.call26 Z (xH 100 D s R t S u q w U x V y W z A ([] : ae3) fB ([] : List (List Value)) aa a6 m a7 n ab Q _ _ ay az aA aB aC aD ai aE aw) ?_
    rintro _ bf _ bp ⟨bJ, bC, rfl, rfl, bt⟩
    refine ⟨(Ic Mb5 (Ic Mb6 (Ic Mb7 (Ic Mb8 (Ic Mb9 In0))))), ?_⟩
    exact Ja 10 Z<|Ad<|Re0<|Re0<|Re0<|Re0<|Re0<|Re0<|Re0<|Re0<|Re0<|Re0<|Sd<|⟨_, by exact R1, n, Z, Z, H⟩
   ·refine id (Jy Z ?_)
    have aF := E.mono j
    have aG := F.mono j
    refine Ek Tryz.call27 Z (qw p0 h i m P _ _ aF aG) ?_
    rintro _ bg _ k ⟨a8, bD, rfl, rfl, aH⟩
    refine ⟨(Ic Mb3 (Ic Mb4 (Ic Mb5 (Ic Mb6 (Ic Mb7 In0))))), ?_⟩
    refine Ao 6 Z ?_
    refine jw (T := Ty.bool) (r := [(.bool false)]) Z Z Z O Z Z Z Z Z Z Z Z Z Z (fun a9 bE aj bx => ⟨(Ic Mb4 (Ic Mb5 (Ic Mb6 (Ic Mb7 (Ic Mb8 In0))))), ?_⟩)
    refine Ao 9 Z ?_
    refine OpW.shift (Shift.settle (T := Ty.bool) .here aj Z (fun bh d aI => Sd ?_))
    have aK := aH.mono d
    refine OpW.shift (Shift.settle (T := fH) (.there .here) aK Z (fun ae e aJ => Sd ?_))
    have ak : RowR Ty.str ae [] [] := RowR.nil
    refine OpW.shift (Shift.nilRow 9 1 (Sd ?_))
    refine OpW.shift (Pu4 (Sd ?_))
    have aL := ((I.mono k).mono d).mono e
    have aM := ((J.mono k).mono d).mono e
    have aN := ((o.mono k).mono d).mono e
    have aO := ((L.mono k).mono d).mono e
    have aP := ((M.mono k).mono d).mono e
    have aQ := ((N.mono k).mono d).mono e
    have aR := aI.mono e
    refine Ek Tryz.call26 Z (xH 100 D s R t S u q w U x V y W z A ([] : ae3) fB ([] : List (List Value)) aa a9 m a8 n ab Q _ _ aL aM aN aO aP aQ ak aR aJ) ?_
    rintro _ bi _ bq ⟨bK, bF, rfl, rfl, bu⟩
    refine ⟨(Ic Mb5 (Ic Mb6 (Ic Mb7 (Ic Mb8 (Ic Mb9 In0))))), ?_⟩
    exact Ja 10 Z<|Ad<|Re0<|Re0<|Re0<|Re0<|Re0<|Re0<|Re0<|Re0<|Re0<|Re0<|Sd<|⟨_, by exact R1, n, Z, Z, H⟩
  ·refine id (Jy Z ?_)
   have aS := E.mono j
   have aT := F.mono j
   refine Ek Tryz.call27 Z (qw p0 h i m P _ _ aS aT) ?_
   rintro _ bj _ l ⟨ba, bG, rfl, rfl, aU⟩
   refine ⟨(Ic Mb3 (Ic Mb4 (Ic Mb5 (Ic Mb6 (Ic Mb7 In0))))), ?_⟩
   refine gB 4 (by kernel_rfl) (Jyq Z (gr (v := (sv q)) Z Z Z (Rb2 Z)) ⟨(Ic Mb3 (Ic Mb4 (Ic Mb5 (Ic Mb6 (Ic Mb7 In0))))), ?_⟩)
   refine Jq 5 Z (ge (T := gy) o Z Z) ?_
   refine Ao 6 Z ?_
   refine jw (T := Ty.bool) (r := [(.bool false)]) Z Z Z O Z Z Z Z Z Z Z Z Z Z (fun bb bH al bz => ⟨(Ic Mb4 (Ic Mb5 (Ic Mb6 (Ic Mb7 (Ic Mb8 In0))))), ?_⟩)
   refine Ao 9 Z ?_
   refine OpW.shift (Shift.settle (T := Ty.bool) .here al Z (fun bk f aV => Sd ?_))
   have aX := aU.mono f
   refine OpW.shift (Shift.settle (T := fH) (.there .here) aX Z (fun af g aW => Sd ?_))
   have am : RowR Ty.str af [] [] := RowR.nil
   refine OpW.shift (Shift.nilRow 9 1 (Sd ?_))
   refine OpW.shift (Pu4 (Sd ?_))
   have aY := ((I.mono l).mono f).mono g
   have aZ := ((J.mono l).mono f).mono g
   have a0 := ((o.mono l).mono f).mono g
   have a1 := ((L.mono l).mono f).mono g
   have a2 := ((M.mono l).mono f).mono g
   have a3 := ((N.mono l).mono f).mono g
   have a4 := aV.mono g
   refine Ek Tryz.call26 Z (xH 100 D s R t S u q w U x V y W z A ([] : ae3) fB ([] : List (List Value)) aa bb m ba n ab Q _ _ aY aZ a0 a1 a2 a3 am a4 aW) ?_
   rintro _ bl _ br ⟨bL, bI, rfl, rfl, bv⟩
   refine ⟨(Ic Mb5 (Ic Mb6 (Ic Mb7 (Ic Mb8 (Ic Mb9 In0))))), ?_⟩
   exact Ja 10 Z<|Ad<|Re0<|Re0<|Re0<|Re0<|Re0<|Re0<|Re0<|Re0<|Re0<|Re0<|Sd<|⟨_, by exact R1, n, Z, Z, H⟩
 rintro _ bm _ bs ⟨p, rfl, rfl, H⟩
 unfold xr at H
 refine fx ?_
 obtain bo := gq H
 subst B
 refine ⟨(.inl Z), [(.bool p)], ⟨(.bool p), _, Z, Z, Z⟩, ?_⟩
 exact Sd ⟨Z, Z⟩
theorem Eo (p0 : ad2) (M : SV) (p1 p2 : Int) (p3 p4 : Int) (g : Bool) (H : xu p0 p1 p2 p3 p4 = some g) (K : Kp) (G : List Ent) (aj : Slr Ty.u8 K (sv M) p0) (hT : li K) :
  Fc Tryz.prog 6 #[(sv M), (Vi p1), (.int .u8 p2), (.int .u8 p3), (Vi p4)] K (G) (fun v y h => v = (.bool g) ∧ G = h) := by
 refine fN Tryz.func6 Z Tryz.ntmps6 Tryz.results6 Z ?_
 unfold xu at H
 refine fc<|fa<|Ea Z<|fb<|fc<|fc<|fa<|?_
 obtain ⟨aM, aE, H⟩ := bnd H
 refine fe Z (Ek Tryz.call7 Z (Ei  aM aE _ _ hT) ?_)
 rintro _ aP _ P ⟨rfl, rfl⟩
 refine Eq Z (gf Z)<|fb<|?_
 refine fm Z ?_ ?_
 ·intro i
  have i := iv i
  have H := f0 (btf i) H
  refine fc<|fa<|Ea Z<|fb<|fx<|?_
  obtain O := gq H
  subst g
  refine ⟨(.inl Z), [(.bool false)], ⟨(.bool false), _, Z, Z, Z⟩, ?_⟩
  exact Sd ⟨Z, Z⟩
 ·intro i
  have i := ir i
  have H := ift i H
  refine ft<|fc<|fa<|Em Z<|?_
  obtain ⟨a, m, e, aF, H⟩ := j7 H
  have al := aj.mono P
  refine fe Z (Ek Tryz.call8 Z (Dv p0 M 7 a m e aF _ _ al) ?_)
  rintro _ aQ _ ag ⟨b, c, f, a3, d, rfl, rfl, am, an, ao, w⟩
  refine Em Z<|Ex Z<|Ex Z<|Ex Z<|?_
  refine fe Z (fD (cs := (fq (fQ.mk [] [] 0) fB fB)) Z Z Z Z (fun z => ?_))
  refine fe Z (Sa (fq a b c) Z .here Z ?_)
  refine Ea Z<|Ea Z<|fb<|fc<|fa<|Em Z<|Em Z<|Eq Z (ge (T := f4) w Z Z)<|Er (wI ((e.length : Int) + 1)) Z<|?_
  obtain ⟨q, aG, H⟩ := bnd H
  refine fe Z (Ek Tryz.call12 Z (yP p4 (wI ((e.length : Int) + 1)) q aG _ _ ) ?_)
  rintro _ _ _ - ⟨rfl, rfl, rfl⟩
  refine Ea Z<|fb<|?_
  refine fz (fun s y h => [] = s ∧ G = h ∧ Ai = some g) ?_ ?_
  ·refine fc ?_
   obtain ⟨r, ab, H⟩ := bnd H
   obtain ⟨n, aH, H⟩ := bnd H
   refine fw _ Z (Ic Mb0 (Ic Mb1 (Ic Mb2 (Ic Mb3 (Ic Mb4 In0)))))<|Jm 0 Z<|Jm 1 Z<|Jm 2 Z<|?_
   have ap := Slr.cut w ab
   refine Jq 3 Z (pi (T := f4) w ab Z Z Z Z)<|Jm 4 Z<|Jm 5 Z<|Jm 6 Z<|Jm 7 Z<|Jm 11 Z<|?_
   refine Ao 8 Z ?_
   refine Ek Tryz.call10 Z (DU e d p1 p2 p3 n aH _ _ w) ?_
   rintro _ _ _ - ⟨x, a4, rfl, rfl, rfl, aq⟩
   refine ⟨(Ic Mb1 (Ic Mb2 (Ic Mb3 (Ic Mb4 (Ic Mb5 In0))))), ?_⟩
   refine Ao 9 Z ?_
   refine OpW.shift (Shift.settle (T := f4) .here aq Z (fun af o ar => Sd ?_))
   have au := ap.mono o
   have av := w.mono o
   have F : RowR (Ty.sl f4) af [[(sv d)], [(sv (iR d 8 0 q.toNat))], [(sv x)]] [e, r, n] := RowR.cons ⟨d, Z, av⟩ (RowR.cons ⟨(iR d 8 0 q.toNat), Z, au⟩ (RowR.cons ⟨x, Z, ar⟩ (RowR.nil)))
   refine gh (T := (Ty.sl f4)) (rows := [[(sv d)], [(sv (iR d 8 0 q.toNat))], [(sv x)]]) (l := [e, r, n]) Z Z Z F Z Z Z Z Z Z Z Z (fun B => ⟨(Ic Mb2 (Ic Mb3 (Ic Mb4 (Ic Mb5 (Ic Mb6 In0))))), ?_⟩)
   refine gB 10 (by kernel_rfl) (Jyq Z (lh (T := (Ty.sl f4)) Mb0 F Z Z Z) ⟨(Ic Mb2 (Ic Mb3 (Ic Mb4 (Ic Mb5 (Ic Mb6 In0))))), ?_⟩)
   refine Ad<|fA<|?_
   refine fY (fun ad s y h => ∃ (k : Int), [(11, (Vp z)), (12, (sv f)), (40, (sv B)), (41, (Vi ([e, r, n].length : Int))), (42, (Vi k))] = s ∧ (.blk z 27 (fq a b c)) :: (.tok 52 1 [(sv f)]) :: (.row (sv B) 29 1 [[(sv d)], [(sv (iR d 8 0 q.toNat))], [(sv x)]].flatten) :: (.tok 3 1 [(sv b)]) :: (.tok 36 1 [(sv c)]) :: G = h ∧ lp1 (xt m e r n a) ad k = some g ∧ Slr (Ty.sl gR) y (sv f) m) BIG ?_ ?_
   ·have ax := ao.mono o
    refine Shift.settle (T := (Ty.sl gR)) (.there (.there (.there (.there (.there .here))))) ax Z ?_
    intro aR aY aw
    exact Pu4<|Pu4<|Pu2<|Pu5<|Pu5<|Re5<|Re5<|Sd<|⟨_, by exact R5, 0, Z, Z, H, aw⟩
   rintro ad _ aS _ A ⟨k, rfl, rfl, H, I⟩
   obtain ⟨a1, aL, rfl, ai, H⟩ := lr H
   unfold xt at H
   refine fc<|fa<|Ec Z<|fb<|fc<|?_
   refine fm Z ?_ ?_
   ·intro t
    obtain ⟨t, H⟩ := It t H
    refine ft<|fc<|fA<|fc<|fa<|?_
    obtain ⟨N, ac, H⟩ := bnd H
    have J := F.mono A
    obtain ⟨a2, Q, ak⟩ := RowR.at J ac
    obtain ⟨C, rfl, R⟩ := ak
    refine Eq Z (gP (T := (Ty.sl f4)) Mb2 J Q (fR ac).1 Z Z Z Z Z)<|El (sv C) Z (ib (T := (Ty.sl f4)) Mb2 J Q Z Z)<|Ea Z<|fb<|fc<|fa<|EL 3 (fq a b c) Z (Rb0 Z)<|Em Z<|Em Z<|?_
    obtain ⟨aN, aI, H⟩ := bnd H
    have S := (am.mono o).mono A
    have U := (an.mono o).mono A
    have V := (((hT.mono P).mono ag).mono o).mono A
    refine fe Z (Ek Tryz.call16 Z (DY a b c m f N C aN aI _ _ S U I R V) ?_)
    rintro _ aT _ p ⟨rfl, rfl⟩
    refine Ea Z<|fb<|?_
    refine fz (fun s y h => ∃ (L : Bool), [(11, (Vp z)), (12, (sv f)), (40, (sv B)), (41, (Vi ([e, r, n].length : Int))), (42, (Vi k)), (65, (.bool L))] = s ∧ (.blk z 27 (fq a b c)) :: (.tok 52 1 [(sv f)]) :: (.row (sv B) 29 1 [[(sv d)], [(sv (iR d 8 0 q.toNat))], [(sv x)]].flatten) :: (.tok 3 1 [(sv b)]) :: (.tok 36 1 [(sv c)]) :: G = h ∧ tr m e r n k a aL L = some g) ?_ ?_
    ·refine fa<|Em Z<|EL 3 (fq a b c) Z (Rb0 Z)<|Em Z<|Em Z<|?_
     obtain ⟨aO, aJ, H⟩ := bnd H
     have W := S.mono p
     have X := U.mono p
     have Y := I.mono p
     have aa := R.mono p
     refine fe Z (Ek Tryz.call17 Z (Eb a b c m f N C aO aJ _ _ W X Y aa) ?_)
     rintro _ aU _ u ⟨rfl, rfl⟩
     refine Eq Z (Dn Z Z Z)<|Em Z<|?_
     refine Ee Z ?_ ?_
     ·intro j
      have j := iv j
      have H := f0 (btf j) H
      exact Ez Z<|Ez Z<|ga Z Z Z Z rfl<|ga Z Z Z Z rfl<|ga Z Z Z Z rfl<|ga Z Z Z Z rfl<|ga Z Z Z Z rfl<|Ez Z<|Et Z<|fb<|Pu4<|Pu4<|Pu4<|Pu4<|Pu4<|Sd<|⟨_, by exact R6, true, Z, Z, H⟩
     ·intro j
      have j := ir j
      have H := ift j H
      refine Vm Z<|Vm Z<|?_
      refine Ee Z ?_ ?_
      ·intro D
       have H := ift D H
       refine VL 3 (fq a b c) Z (Rb0 Z)<|Vm Z<|Vm Z<|?_
       obtain ⟨ae, aK, H⟩ := bnd H
       have ay := W.mono u
       have az := X.mono u
       have aA := Y.mono u
       have aB := aa.mono u
       have aC := (V.mono p).mono u
       refine hQ Z Z Z Z (Ek Tryz.call9 Z (xF a b c m f N C ae aK _ _ ay az aA aB aC) ?_)
       rintro _ aV _ aZ ⟨rfl, rfl⟩
       exact Vq Z (gf Z)<|Vt Z<|Ef Z<|fb<|Pu4<|Pu4<|Pu4<|Pu4<|Pu4<|Sd<|⟨_, by exact R6, (!(ae)), Z, Z, H⟩
      ·intro D
       have H := f0 (btf D) H
       exact Ez Z<|Ez Z<|Ez Z<|Ez Z<|Ez Z<|Vf Z<|Ef Z<|fb<|Pu4<|Pu4<|Pu4<|Pu4<|Pu4<|Sd<|⟨_, by exact R6, false, Z, Z, H⟩
    rintro _ aW _ ah ⟨L, rfl, rfl, H⟩
    unfold tr at H
    refine fm Z ?_ ?_
    ·intro E
     have H := ift E H
     refine fc<|fa<|Ea Z<|fb<|fx<|?_
     obtain O := gq H
     subst g
     refine ⟨(.inl Z), [(.bool false)], ⟨(.bool false), _, Z, Z, Z⟩, ?_⟩
     exact Re0<|Re0<|Re0<|Re0<|Re0<|Sd<|⟨Z, Z⟩
    ·intro E
     have H := f0 (btf E) H
     refine ft<|fa<|Er (wI (k + 1)) Z<|Em Z<|fb<|Pu4<|Pu4<|Pu4<|Pu4<|Pu4<|?_
     have aD := (I.mono p).mono ah
     exact Sd ⟨_, by exact R5, _, Nat.lt_succ_self _, (wI (k + 1)), Z, Z, (ai ▸ H), aD⟩
   ·intro t
    obtain ⟨t, H⟩ := If t H
    exact f5<|Re0<|Re0<|Re0<|Re0<|Re0<|Sd<|⟨[], trivial, Z, Z, H⟩
  rintro _ aX _ a0 ⟨rfl, rfl, H⟩
  unfold Ai at H
  refine fc<|fa<|Ea Z<|fb<|fx<|?_
  obtain O := gq H
  subst g
  refine ⟨(.inl Z), [(.bool true)], ⟨(.bool true), _, Z, Z, Z⟩, ?_⟩
  exact Sd ⟨Z, Z⟩
end Go.Hx
